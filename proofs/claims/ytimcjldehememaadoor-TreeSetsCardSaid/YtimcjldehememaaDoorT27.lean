/- TreeChecks: the walk. -/
import Derived.Test.YtimcjldehememaaDoorT25
namespace Go.Proofs.YtimcjldehememaaDoor
open Go.RowKit

theorem far8' {w : World} {g h : Nat} {t : TypeId} {ds : List Int} (k : DgAt w g t ds) (hne : ¬ g = h) (o0 o1 o2 o3 o4 o5 o6 o7 : Int) :
    DgAt ((((((((w.setCell ⟨h, 0, none⟩ (.int .u8 o0)).setCell ⟨h, 1, none⟩ (.int .u8 o1)).setCell ⟨h, 2, none⟩ (.int .u8 o2)).setCell ⟨h, 3, none⟩ (.int .u8 o3)).setCell ⟨h, 4, none⟩ (.int .u8 o4)).setCell ⟨h, 5, none⟩ (.int .u8 o5)).setCell ⟨h, 6, none⟩ (.int .u8 o6)).setCell ⟨h, 7, none⟩ (.int .u8 o7)) g t ds :=
  (((((((Bk.far k hne _).far hne _).far hne _).far hne _).far hne _).far hne _).far hne _).far hne _
theorem cells_three {w w' : World} {qa qb qc : Nat} {ta tb tc : TypeId} {a0 a1 a2 a3 a4 a5 a6 a7 b0 b1 b2 b3 b4 b5 b6 b7 c0 c1 c2 c3 c4 c5 c6 c7 : Int} (ha : DgAt w qa ta [a0, a1, a2, a3, a4, a5, a6, a7]) (hb : DgAt w qb tb [b0, b1, b2, b3, b4, b5, b6, b7]) (hc : DgAt w qc tc [c0, c1, c2, c3, c4, c5, c6, c7]) (h : Below w.heap.size w w') :
    w'.cell? ⟨qa, 0, none⟩ = some (.int .u8 a0) ∧ w'.cell? ⟨qa, 1, none⟩ = some (.int .u8 a1) ∧ w'.cell? ⟨qa, 2, none⟩ = some (.int .u8 a2) ∧ w'.cell? ⟨qa, 3, none⟩ = some (.int .u8 a3) ∧ w'.cell? ⟨qa, 4, none⟩ = some (.int .u8 a4) ∧ w'.cell? ⟨qa, 5, none⟩ = some (.int .u8 a5) ∧ w'.cell? ⟨qa, 6, none⟩ = some (.int .u8 a6) ∧ w'.cell? ⟨qa, 7, none⟩ = some (.int .u8 a7) ∧ w'.cell? ⟨qb, 0, none⟩ = some (.int .u8 b0) ∧ w'.cell? ⟨qb, 1, none⟩ = some (.int .u8 b1) ∧ w'.cell? ⟨qb, 2, none⟩ = some (.int .u8 b2) ∧ w'.cell? ⟨qb, 3, none⟩ = some (.int .u8 b3) ∧ w'.cell? ⟨qb, 4, none⟩ = some (.int .u8 b4) ∧ w'.cell? ⟨qb, 5, none⟩ = some (.int .u8 b5) ∧ w'.cell? ⟨qb, 6, none⟩ = some (.int .u8 b6) ∧ w'.cell? ⟨qb, 7, none⟩ = some (.int .u8 b7) ∧ w'.cell? ⟨qc, 0, none⟩ = some (.int .u8 c0) ∧ w'.cell? ⟨qc, 1, none⟩ = some (.int .u8 c1) ∧ w'.cell? ⟨qc, 2, none⟩ = some (.int .u8 c2) ∧ w'.cell? ⟨qc, 3, none⟩ = some (.int .u8 c3) ∧ w'.cell? ⟨qc, 4, none⟩ = some (.int .u8 c4) ∧ w'.cell? ⟨qc, 5, none⟩ = some (.int .u8 c5) ∧ w'.cell? ⟨qc, 6, none⟩ = some (.int .u8 c6) ∧ w'.cell? ⟨qc, 7, none⟩ = some (.int .u8 c7) := by
  obtain ⟨e0, e1, e2, e3, e4, e5, e6, e7⟩ := cells8 (ha.later h)
  obtain ⟨f0, f1, f2, f3, f4, f5, f6, f7⟩ := cells8 (hb.later h)
  obtain ⟨i0, i1, i2, i3, i4, i5, i6, i7⟩ := cells8 (hc.later h)
  exact ⟨e0, e1, e2, e3, e4, e5, e6, e7, f0, f1, f2, f3, f4, f5, f6, f7, i0, i1, i2, i3, i4, i5, i6, i7⟩
theorem cells_row {w w' : World} {qa b q : Nat} {ta : TypeId} {a0 a1 a2 a3 a4 a5 a6 a7 b0 b1 b2 b3 b4 b5 b6 b7 : Int} (ha : DgAt w qa ta [a0, a1, a2, a3, a4, a5, a6, a7]) (hb : w.rangeAt b q ([b0, b1, b2, b3, b4, b5, b6, b7].map (Value.int .u8))) (hl : b < w.heap.size) (h : Below w.heap.size w w') :
    w'.cell? ⟨qa, 0, none⟩ = some (.int .u8 a0) ∧ w'.cell? ⟨qa, 1, none⟩ = some (.int .u8 a1) ∧ w'.cell? ⟨qa, 2, none⟩ = some (.int .u8 a2) ∧ w'.cell? ⟨qa, 3, none⟩ = some (.int .u8 a3) ∧ w'.cell? ⟨qa, 4, none⟩ = some (.int .u8 a4) ∧ w'.cell? ⟨qa, 5, none⟩ = some (.int .u8 a5) ∧ w'.cell? ⟨qa, 6, none⟩ = some (.int .u8 a6) ∧ w'.cell? ⟨qa, 7, none⟩ = some (.int .u8 a7) ∧ w'.cell? ⟨b, q, none⟩ = some (.int .u8 b0) ∧ w'.cell? ⟨b, q + 1, none⟩ = some (.int .u8 b1) ∧ w'.cell? ⟨b, q + 2, none⟩ = some (.int .u8 b2) ∧ w'.cell? ⟨b, q + 3, none⟩ = some (.int .u8 b3) ∧ w'.cell? ⟨b, q + 4, none⟩ = some (.int .u8 b4) ∧ w'.cell? ⟨b, q + 5, none⟩ = some (.int .u8 b5) ∧ w'.cell? ⟨b, q + 6, none⟩ = some (.int .u8 b6) ∧ w'.cell? ⟨b, q + 7, none⟩ = some (.int .u8 b7) := by
  obtain ⟨e0, e1, e2, e3, e4, e5, e6, e7⟩ := cells8 (ha.later h)
  obtain ⟨f0, f1, f2, f3, f4, f5, f6, f7⟩ := range8 (range_below hb h hl)
  exact ⟨e0, e1, e2, e3, e4, e5, e6, e7, f0, f1, f2, f3, f4, f5, f6, f7⟩
theorem cells_four {w w' : World} {qa qc qd b q : Nat} {ta tc td : TypeId} {a0 a1 a2 a3 a4 a5 a6 a7 b0 b1 b2 b3 b4 b5 b6 b7 c0 c1 c2 c3 c4 c5 c6 c7 d0 d1 d2 d3 d4 d5 d6 d7 : Int} (ha : DgAt w qa ta [a0, a1, a2, a3, a4, a5, a6, a7]) (hb : w.rangeAt b q ([b0, b1, b2, b3, b4, b5, b6, b7].map (Value.int .u8))) (hl : b < w.heap.size) (hc : DgAt w qc tc [c0, c1, c2, c3, c4, c5, c6, c7]) (hd : DgAt w qd td [d0, d1, d2, d3, d4, d5, d6, d7]) (h : Below w.heap.size w w') :
    w'.cell? ⟨qa, 0, none⟩ = some (.int .u8 a0) ∧ w'.cell? ⟨qa, 1, none⟩ = some (.int .u8 a1) ∧ w'.cell? ⟨qa, 2, none⟩ = some (.int .u8 a2) ∧ w'.cell? ⟨qa, 3, none⟩ = some (.int .u8 a3) ∧ w'.cell? ⟨qa, 4, none⟩ = some (.int .u8 a4) ∧ w'.cell? ⟨qa, 5, none⟩ = some (.int .u8 a5) ∧ w'.cell? ⟨qa, 6, none⟩ = some (.int .u8 a6) ∧ w'.cell? ⟨qa, 7, none⟩ = some (.int .u8 a7) ∧ w'.cell? ⟨b, q, none⟩ = some (.int .u8 b0) ∧ w'.cell? ⟨b, q + 1, none⟩ = some (.int .u8 b1) ∧ w'.cell? ⟨b, q + 2, none⟩ = some (.int .u8 b2) ∧ w'.cell? ⟨b, q + 3, none⟩ = some (.int .u8 b3) ∧ w'.cell? ⟨b, q + 4, none⟩ = some (.int .u8 b4) ∧ w'.cell? ⟨b, q + 5, none⟩ = some (.int .u8 b5) ∧ w'.cell? ⟨b, q + 6, none⟩ = some (.int .u8 b6) ∧ w'.cell? ⟨b, q + 7, none⟩ = some (.int .u8 b7) ∧ w'.cell? ⟨qc, 0, none⟩ = some (.int .u8 c0) ∧ w'.cell? ⟨qc, 1, none⟩ = some (.int .u8 c1) ∧ w'.cell? ⟨qc, 2, none⟩ = some (.int .u8 c2) ∧ w'.cell? ⟨qc, 3, none⟩ = some (.int .u8 c3) ∧ w'.cell? ⟨qc, 4, none⟩ = some (.int .u8 c4) ∧ w'.cell? ⟨qc, 5, none⟩ = some (.int .u8 c5) ∧ w'.cell? ⟨qc, 6, none⟩ = some (.int .u8 c6) ∧ w'.cell? ⟨qc, 7, none⟩ = some (.int .u8 c7) ∧ w'.cell? ⟨qd, 0, none⟩ = some (.int .u8 d0) ∧ w'.cell? ⟨qd, 1, none⟩ = some (.int .u8 d1) ∧ w'.cell? ⟨qd, 2, none⟩ = some (.int .u8 d2) ∧ w'.cell? ⟨qd, 3, none⟩ = some (.int .u8 d3) ∧ w'.cell? ⟨qd, 4, none⟩ = some (.int .u8 d4) ∧ w'.cell? ⟨qd, 5, none⟩ = some (.int .u8 d5) ∧ w'.cell? ⟨qd, 6, none⟩ = some (.int .u8 d6) ∧ w'.cell? ⟨qd, 7, none⟩ = some (.int .u8 d7) := by
  obtain ⟨e0, e1, e2, e3, e4, e5, e6, e7⟩ := cells8 (ha.later h)
  obtain ⟨f0, f1, f2, f3, f4, f5, f6, f7⟩ := range8 (range_below hb h hl)
  obtain ⟨g0, g1, g2, g3, g4, g5, g6, g7⟩ := cells8 (hc.later h)
  obtain ⟨i0, i1, i2, i3, i4, i5, i6, i7⟩ := cells8 (hd.later h)
  exact ⟨e0, e1, e2, e3, e4, e5, e6, e7, f0, f1, f2, f3, f4, f5, f6, f7, g0, g1, g2, g3, g4, g5, g6, g7, i0, i1, i2, i3, i4, i5, i6, i7⟩

set_option maxRecDepth 20000 in
set_option maxHeartbeats 8000000 in
theorem law_TreeChecks (w : World) (A : Option Addr) (n c : Nat) (vs : List Int) (i x : Int) (ho : U16 vs) (hs : Sl w w.heap.size 1 A n (vs.map (.int .u16))) (hx : 0 ≤ x ∧ x < 65536) :
    Calls Tryd.prog 5 #[.slice A n c, .int .i64 i, .int .u16 x] w fun e w' => e = .returned (.bool true) ∧ Below w.heap.size w w' := by
  have HS := Lib.hid hs; have HO := Lib.hid ho; have HX := Lib.hid hx
  have hn := hs.le
  have hvl : vs.length = n := hs.length
  have HVL := Lib.hid hvl
  clear hs ho hx hvl
  go_enter Tryd.func5, Tryd.ntmps5
  go_wp2_with fail
  refine (some_any _ A n c vs HO.out HS.out 70 (by decide)).mono ?_
  rintro e w1 ⟨⟨v, rfl, hown⟩, hb1⟩
  obtain ⟨m, hm, hm7⟩ : ∃ m, min 70 n = m ∧ m ≤ 70 := ⟨_, rfl, Nat.min_le_left _ _⟩
  have hlen : (someI vs 70).length = m := by rw [someI_len, HVL.out, hm]
  rw [hm] at hown
  have hdo := someI_ok HO.out 70
  obtain ⟨ls, hls⟩ : ∃ ls, someI vs 70 = ls := ⟨_, rfl⟩
  rw [hls] at hlen hdo hown
  by_cases hm0 : 0 < m
  · obtain ⟨b1, c1, rfl, hgb, hgc⟩ := hown.form hm0
    obtain ⟨k, hk, hkm⟩ := rem_at (IntKind.u64.wrap i) m (by rw [IntKind.wrap_u64]; omega) hm0
    obtain ⟨y, hy⟩ : ∃ y, ls[k]? = some y := ⟨ls[k]'(by omega), List.getElem?_eq_getElem _⟩
    have hyo := hdo y (List.mem_of_getElem? hy)
    obtain ⟨y0, y1, y2, y3, y4, y5, y6, y7, rfl⟩ := list8 y hyo.len
    obtain ⟨r0, r1, r2, r3, r4, r5, r6, r7, hrr⟩ := list8 (rootI ls) (rootI_ok _).len
    have HR := Lib.hid hrr; have HY := Lib.hid hy; have HYO := Lib.hid hyo
    have hsl := Sl.of_own hown
    have hrg := sl_dg hsl hdo hy
    rw [Nat.zero_add] at hrg
    have hbl := hgc
    have HL := Lib.hid hlen
    have HB1 := Lib.hid hb1; have HDO := Lib.hid hdo; have HSL := Lib.hid hsl; have HRG := Lib.hid hrg
    have hre : rootE m = 0 := if_pos ⟨hm0, by omega⟩
    have hpe : pathE m k = 0 := by rw [pathE, if_pos ⟨hm0, by omega⟩, if_pos ⟨by omega, by omega⟩]
    have hm1 : ((m : Int) == 0) = false := by simp; omega
    have hm2 : ¬ m = 0 := by omega
    have hm3 : ¬ (m : Int) = 0 := by omega
    have hm4 : (0 : Int) ≤ m := by omega
    have hm5 : IntKind.u64.wrap (m : Int) = m := by rw [IntKind.wrap_u64]; omega
    have hk5 : IntKind.u64.wrap (k : Int) = k := by rw [IntKind.wrap_u64]; omega
    have hk6 : IntKind.i64.wrap (k : Int) = k := by rw [IntKind.wrap_i64]; omega
    have hki : (k : Int) < m := by omega
    have hk0 : (0 : Int) ≤ k := by omega
    clear hown hb1 hdo hsl hrg hrr hy hyo hlen
    go_wp2_with fail
    refine (treeRoot_any _ _ m c1 ls HDO.out HSL.out).mono ?_
    rintro e w2 ⟨rfl, hb2⟩
    rw [HR.out, show dgA [r0, r1, r2, r3, r4, r5, r6, r7] = #[.int .u8 r0, .int .u8 r1, .int .u8 r2, .int .u8 r3, .int .u8 r4, .int .u8 r5, .int .u8 r6, .int .u8 r7] from rfl, hre]
    have HB2 := Lib.hid hb2
    clear hb2
    go_upto_region 6 with fail
    obtain ⟨w3, hw3⟩ : ∃ w3, w2.alloc (.cells #[.int .u8 r0, .int .u8 r1, .int .u8 r2, .int .u8 r3, .int .u8 r4, .int .u8 r5, .int .u8 r6, .int .u8 r7] 26) = w3 := ⟨_, rfl⟩
    obtain ⟨g, hg⟩ : ∃ g, w2.heap.size = g := ⟨_, rfl⟩
    have k3 : DgAt w3 g 26 [r0, r1, r2, r3, r4, r5, r6, r7] := hw3 ▸ Bk.at_ _ _ _ hg rfl
    have hbw : Below w2.heap.size w2 w3 := hw3 ▸ below_new w2 _
    have HK3 := Lib.hid k3
    have HB3 := Lib.hid (below_then HB2.out hbw)
    rw [hw3, hg]
    clear HB2 k3 hg hw3 hbw
    go_wp2_with fail
    refine (treePath_any _ _ m c1 k ls HDO.out (HSL.out.later HB3.out)).mono ?_
    rintro e w4 ⟨⟨v, rfl, hown⟩, hb4⟩
    obtain ⟨B4, c4, rfl⟩ := own_form hown
    rw [hpe]
    have HSP := Lib.hid (Sl.of_own hown)
    have HB4 := Lib.hid (below_then HB3.out hb4)
    have HK4 := Lib.hid (HK3.out.later hb4)
    have HRG4 := Lib.hid (range_below HRG.out HB4.out hbl)
    have hb1l : b1 < w4.heap.size := by have := HB4.out.size; omega
    have hpl : (pathL ls k).length ≤ 12 := pathL_small ls k
    have HPO := Lib.hid (pathL_ok ls k)
    obtain ⟨N, hN⟩ : ∃ N, (pathL ls k).length = N := ⟨_, rfl⟩
    obtain ⟨ps, hps⟩ : ∃ ps, pathL ls k = ps := ⟨_, rfl⟩
    rw [hN] at hpl HSP ⊢
    rw [hps] at hN HSP HPO
    have HCK : Hid (checkI [r0, r1, r2, r3, r4, r5, r6, r7] k [y0, y1, y2, y3, y4, y5, y6, y7] ps = true) := by
      show _ = _
      rw [← hps, ← HR.out]
      exact check_at HY.out (by rw [HL.out]; omega)
    have HPS := Lib.hid hps
    have HRO : Hid (DgOk [r0, r1, r2, r3, r4, r5, r6, r7]) := by show DgOk _; rw [← HR.out]; exact rootI_ok _
    clear hown hb4 HB3 HK3 hps hN
    go_upto_region 7 with fail
    trace_state
    have hS4 := cells_row HK4.out HRG4.out hb1l (Below.refl _ _)
    go_region_held3 (fun w' => w'.cell? ⟨g, 0, none⟩ = some (.int .u8 r0) ∧ w'.cell? ⟨g, 1, none⟩ = some (.int .u8 r1) ∧ w'.cell? ⟨g, 2, none⟩ = some (.int .u8 r2) ∧ w'.cell? ⟨g, 3, none⟩ = some (.int .u8 r3) ∧ w'.cell? ⟨g, 4, none⟩ = some (.int .u8 r4) ∧ w'.cell? ⟨g, 5, none⟩ = some (.int .u8 r5) ∧ w'.cell? ⟨g, 6, none⟩ = some (.int .u8 r6) ∧ w'.cell? ⟨g, 7, none⟩ = some (.int .u8 r7) ∧ w'.cell? ⟨b1, k * 8, none⟩ = some (.int .u8 y0) ∧ w'.cell? ⟨b1, k * 8 + 1, none⟩ = some (.int .u8 y1) ∧ w'.cell? ⟨b1, k * 8 + 2, none⟩ = some (.int .u8 y2) ∧ w'.cell? ⟨b1, k * 8 + 3, none⟩ = some (.int .u8 y3) ∧ w'.cell? ⟨b1, k * 8 + 4, none⟩ = some (.int .u8 y4) ∧ w'.cell? ⟨b1, k * 8 + 5, none⟩ = some (.int .u8 y5) ∧ w'.cell? ⟨b1, k * 8 + 6, none⟩ = some (.int .u8 y6) ∧ w'.cell? ⟨b1, k * 8 + 7, none⟩ = some (.int .u8 y7)) (first | (with_reducible exact hS6) | (with_reducible exact hS5) | (with_reducible exact hS4) | go_keep)
      (first
        | (go_at_call 21; refine (Check_any _ [r0, r1, r2, r3, r4, r5, r6, r7] k [y0, y1, y2, y3, y4, y5, y6, y7] HRO.out HYO.out B4 N c4 ps HPO.out (HSP.out.later (below_draws _ _ 1))).mono ?_; rintro e w5 ⟨rfl, hb5⟩; rw [HCK.out]; have E5 : Hid (Below w4.heap.size w4 w5) := ((below_draws w4 _ 1).trans hb5); have hS5 := cells_row HK4.out HRG4.out hb1l E5.out; clear hb5)
        | (go_at_call 15; refine (told_any _).mono ?_; rintro e w6 ⟨rfl, hb6⟩; have E6 : Hid (Below w4.heap.size w4 w6) := (E5.out.trans (hb6.mono E5.out.size)); have hS6 := cells_row HK4.out HRG4.out hb1l E6.out; clear hb6))
    have HB6 := Lib.hid (HB4.out.trans (E6.out.mono HB4.out.size))
    have HK6 := Lib.hid (HK4.out.later E6.out)
    have HRG6 := Lib.hid (range_below HRG4.out E6.out hb1l)
    have HSP6 := Lib.hid (HSP.out.later E6.out)
    have hx0 : 0 ≤ x := HX.out.1
    have hx1 : x < 65536 := HX.out.2
    have e1 : x / 256 < 256 := by omega
    have e0 : 0 ≤ x / 256 := by omega
    have v1 : IntKind.u8.wrap x = x % 256 := by rw [IntKind.wrap_u8]
    have v2 : IntKind.u16.wrap (x.tdiv 256) = x / 256 := by rw [Int.tdiv_eq_ediv_of_nonneg hx0, IntKind.wrap_u16]; omega
    have v3 : IntKind.u8.wrap (x / 256) = x / 256 := by rw [IntKind.wrap_u8]; omega
    clear hS4 hS5 hS6 hre hpe HSP HK4 HRG4
    go_upto_region 10 with fail
    obtain ⟨w7, hw7⟩ : ∃ w7, w6.alloc (.cells #[.int .u8 (x % 256), .int .u8 (x / 256), .int .u8 3, .int .u8 0, .int .u8 0, .int .u8 0, .int .u8 0, .int .u8 0] 26) = w7 := ⟨_, rfl⟩
    obtain ⟨h, hh⟩ : ∃ h, w6.heap.size = h := ⟨_, rfl⟩
    obtain ⟨x0, x1, x2, x3, x4, x5, x6, x7, hxl⟩ : ∃ x0 x1 x2 x3 x4 x5 x6 x7 : Int, leaf16 3 x = [x0, x1, x2, x3, x4, x5, x6, x7] := ⟨_, _, _, _, _, _, _, _, rfl⟩
    have k7 : DgAt w7 h 26 [x0, x1, x2, x3, x4, x5, x6, x7] := by rw [← hxl]; exact hw7 ▸ Bk.at_ _ _ _ hh rfl
    have hbw : Below w6.heap.size w6 w7 := hw7 ▸ below_new w6 _
    have HXD : Hid (DgOk [x0, x1, x2, x3, x4, x5, x6, x7]) := by show DgOk _; rw [← hxl]; exact leaf16_ok (by omega) HX.out
    have HB7 := Lib.hid (below_then HB6.out hbw)
    have HK7 : Hid (DgAt w7 g 26 [r0, r1, r2, r3, r4, r5, r6, r7] ∧ w7.rangeAt b1 (k * 8) ([y0, y1, y2, y3, y4, y5, y6, y7].map (Value.int .u8)) ∧ DgAt w7 h 26 [x0, x1, x2, x3, x4, x5, x6, x7]) := ⟨HK6.out.later hbw, range_below HRG6.out hbw (by have := E6.out.size; omega), k7⟩
    have HSP7 := Lib.hid (HSP6.out.later hbw)
    have hb7l : b1 < w7.heap.size := by have := HB7.out.size; omega
    rw [hw7, hh]
    clear hw7 hh hxl k7 hbw HB6 HK6 HRG6 HSP6 v1 v2 v3 e0 e1 hx0 hx1 hb1l
    obtain ⟨d0, d1, d2, d3, d4, d5, d6, d7, hdd⟩ := list8 (withI (k : Int) [x0, x1, x2, x3, x4, x5, x6, x7] ps) (withI_ok _ _ _).len
    have HD := Lib.hid hdd
    have HDO : Hid (DgOk [d0, d1, d2, d3, d4, d5, d6, d7]) := by show DgOk _; rw [← hdd]; exact withI_ok _ _ _
    have hNl : ps.length = N := HSP7.out.dgs HPO.out
    have HWB : Hid (withB (k : Int) N = true) := by
      show _ = _
      rw [← hNl, ← HPS.out]
      exact withB_in (by rw [HL.out]; exact hkm) (by rw [HL.out]; omega)
    obtain ⟨z, hz⟩ : ∃ z, eqL [d0, d1, d2, d3, d4, d5, d6, d7] [r0, r1, r2, r3, r4, r5, r6, r7] = z := ⟨_, rfl⟩
    have HC : Hid (checkI [r0, r1, r2, r3, r4, r5, r6, r7] (k : Int) [x0, x1, x2, x3, x4, x5, x6, x7] ps = z) := by show _ = _; rw [checkI, hNl, HWB.out, hdd, Bool.true_and, hz]
    obtain ⟨zz, hzz⟩ : ∃ zz, eqL [x0, x1, x2, x3, x4, x5, x6, x7] [y0, y1, y2, y3, y4, y5, y6, y7] = zz := ⟨_, rfl⟩
    have HZT : Hid (zz = true → z = true) := by
      intro ht
      rw [ht] at hzz
      have hxy : [x0, x1, x2, x3, x4, x5, x6, x7] = [y0, y1, y2, y3, y4, y5, y6, y7] := of_decide_eq_true hzz
      rw [← hz, ← hdd, hxy, ← HPS.out, withI_at HY.out (by rw [HL.out]; omega), HR.out, eqL_self]
    have heq1 : ∀ W, (Op.equalIn 10000 25 (.agg #[.int .u8 d0, .int .u8 d1, .int .u8 d2, .int .u8 d3, .int .u8 d4, .int .u8 d5, .int .u8 d6, .int .u8 d7]) (.agg #[.int .u8 r0, .int .u8 r1, .int .u8 r2, .int .u8 r3, .int .u8 r4, .int .u8 r5, .int .u8 r6, .int .u8 r7])).run Tryd.prog W = .ok z W := fun W => (rdg_equal d0 d1 d2 d3 d4 d5 d6 d7 r0 r1 r2 r3 r4 r5 r6 r7 W).trans (by rw [hz])
    have heq2 : ∀ W, (Op.equalIn 10000 26 (.agg #[.int .u8 x0, .int .u8 x1, .int .u8 x2, .int .u8 x3, .int .u8 x4, .int .u8 x5, .int .u8 x6, .int .u8 x7]) (.agg #[.int .u8 y0, .int .u8 y1, .int .u8 y2, .int .u8 y3, .int .u8 y4, .int .u8 y5, .int .u8 y6, .int .u8 y7])).run Tryd.prog W = .ok zz W := fun W => (dg_equal x0 x1 x2 x3 x4 x5 x6 x7 y0 y1 y2 y3 y4 y5 y6 y7 W).trans (by rw [hzz])
    have HEQ1 := Lib.hid heq1; have HEQ2 := Lib.hid heq2
    have hSr := cells_one HK7.out.2.2 (Below.refl _ _)
    have HBa : Hid (Below w7.heap.size w7 w7.drew) := (Below.refl _ _).drew
    have HBb : Hid (Below w7.heap.size w7 (w7.alloc (.cells #[.int .u8 0, .int .u8 0, .int .u8 0, .int .u8 0, .int .u8 0, .int .u8 0, .int .u8 0, .int .u8 0] 25)).drew) := (below_new w7 _).drew
    have HNE : Hid (¬ h = w7.heap.size) := by show ¬ _; have := Bk.lt HK7.out.2.2; omega
    clear hdd hz hzz heq1 heq2 hNl HR HY HS HO HVL
    go_cut [14, 15] (fun p iv wx => ∃ h2, p = .pointer (some ⟨h2, 0, none⟩) ∧ iv = .bool true ∧ DgAt wx h2 25 [d0, d1, d2, d3, d4, d5, d6, d7] ∧ Below w7.heap.size w7 wx)
    case first =>
      go_region_held3 (fun w' => w'.cell? ⟨h, 0, none⟩ = some (.int .u8 x0) ∧ w'.cell? ⟨h, 1, none⟩ = some (.int .u8 x1) ∧ w'.cell? ⟨h, 2, none⟩ = some (.int .u8 x2) ∧ w'.cell? ⟨h, 3, none⟩ = some (.int .u8 x3) ∧ w'.cell? ⟨h, 4, none⟩ = some (.int .u8 x4) ∧ w'.cell? ⟨h, 5, none⟩ = some (.int .u8 x5) ∧ w'.cell? ⟨h, 6, none⟩ = some (.int .u8 x6) ∧ w'.cell? ⟨h, 7, none⟩ = some (.int .u8 x7)) (first | (with_reducible exact hS4) | (with_reducible exact hS3) | (with_reducible exact hSr) | (exact cells_one (far8' (HK7.out.2.2.later HB9.out) hne4 _ _ _ _ _ _ _ _) (Below.refl _ _)) | go_keep)
        (first
          | (go_at_call 14; refine (plain_any _ B4 N c4 ps HPO.out (HSP7.out.later ?_) (by omega)).mono ?_; (with_reducible exact HBa.out); rintro e w8 ⟨⟨v, rfl, hown⟩, hb8⟩; obtain ⟨B3, c3, rfl⟩ := own_form hown; have HSQ := Lib.hid (Sl.of_own hown); have HB8 : Hid (Below w7.heap.size w7 w8) := ((below_draws w7 _ 1).trans hb8); have hS3 := cells_one HK7.out.2.2 HB8.out; clear hown hb8)
          | (go_at_call 14; refine (plain_any _ B4 N c4 ps HPO.out (HSP7.out.later ?_) (by omega)).mono ?_; (with_reducible exact HBb.out); rintro e w8 ⟨⟨v, rfl, hown⟩, hb8⟩; obtain ⟨B3, c3, rfl⟩ := own_form hown; have HSQ := Lib.hid (Sl.of_own hown); have HZ3 : Hid (DgAt w8 w7.heap.size 25 zeroD) := ((Bk.at_ _ _ _ rfl rfl).drew.later hb8); have HB8 : Hid (Below w7.heap.size w7 w8) := (below_then HBb.out hb8); have hS3 := cells_one HK7.out.2.2 HB8.out; clear hown hb8)
          | (go_at_call 22; refine (rWith_any _ (k : Int) [x0, x1, x2, x3, x4, x5, x6, x7] HXD.out B3 N c3 ps HPO.out (HSQ.out.later ?_)).mono ?_; (with_reducible exact Below.refl _ _); rintro e w9 ⟨rfl, hb9⟩; rw [HD.out, HWB.out, show dgA [d0, d1, d2, d3, d4, d5, d6, d7] = #[.int .u8 d0, .int .u8 d1, .int .u8 d2, .int .u8 d3, .int .u8 d4, .int .u8 d5, .int .u8 d6, .int .u8 d7] from rfl]; (try have HZ4 := Lib.hid (HZ3.out.later hb9); have hne4 := HNE.out; obtain ⟨f0, f1, f2, f3, f4, f5, f6, f7⟩ := cells8 HZ4.out; have zf := Bk.frozen HZ4.out); have HB9 : Hid (Below w7.heap.size w7 w9) := (HB8.out.trans (hb9.mono HB8.out.size)); have hS4 := cells_one HK7.out.2.2 HB9.out; clear hb9)
          | (go_at_call 22; refine (rWith_any _ (k : Int) [x0, x1, x2, x3, x4, x5, x6, x7] HXD.out B3 N c3 ps HPO.out (HSQ.out.later ?_)).mono ?_; (with_reducible exact below_new _ _); rintro e w9 ⟨rfl, hb9⟩; rw [HD.out, HWB.out, show dgA [d0, d1, d2, d3, d4, d5, d6, d7] = #[.int .u8 d0, .int .u8 d1, .int .u8 d2, .int .u8 d3, .int .u8 d4, .int .u8 d5, .int .u8 d6, .int .u8 d7] from rfl]; have HZ4 : Hid (DgAt w9 w8.heap.size 25 zeroD) := ((Bk.at_ _ _ _ rfl rfl).later hb9); have HB9 : Hid (Below w7.heap.size w7 w9) := (HB8.out.trans ((below_then (below_new w8 _) hb9).mono HB8.out.size)); have hne4 : ¬ h = w8.heap.size := (by have := HB8.out.size; have := HNE.out; have := Bk.lt HK7.out.2.2; omega); obtain ⟨f0, f1, f2, f3, f4, f5, f6, f7⟩ := cells8 HZ4.out; have zf := Bk.frozen HZ4.out; have hS4 := cells_one HK7.out.2.2 HB9.out; clear hb9))
      all_goals
        go_wp2_with fail
        go_meet
        go_light
      · exact ⟨_, rfl, rfl, Bk.at_ _ _ _ rfl rfl, HB9.out.alloc HB9.out.size _⟩
      · exact ⟨_, rfl, rfl, Bk.put8 HZ4.out zeroD_ok.len _ _ _ _ _ _ _ _, below_put8 HB9.out HB8.out.size _ _ _ _ _ _ _ _⟩
      · exact ⟨_, rfl, rfl, Bk.put8 HZ4.out zeroD_ok.len _ _ _ _ _ _ _ _, below_put8 HB9.out (Nat.le_refl _) _ _ _ _ _ _ _ _⟩
    obtain ⟨h2, rfl, rfl, hd2, hb2⟩ := hcut
    have HBC := Lib.hid (below_then HB7.out hb2)
    have HKA : Hid (DgAt wc g 26 [r0, r1, r2, r3, r4, r5, r6, r7] ∧ wc.rangeAt b1 (k * 8) ([y0, y1, y2, y3, y4, y5, y6, y7].map (Value.int .u8)) ∧ b1 < wc.heap.size ∧ DgAt wc h 26 [x0, x1, x2, x3, x4, x5, x6, x7] ∧ DgAt wc h2 25 [d0, d1, d2, d3, d4, d5, d6, d7]) :=
      ⟨HK7.out.1.later hb2, range_below HK7.out.2.1 hb2 hb7l, by have := hb2.size; omega, HK7.out.2.2.later hb2, hd2⟩
    have HSP9 := Lib.hid (HSP7.out.later hb2)
    have hS9 := cells_four HKA.out.1 HKA.out.2.1 HKA.out.2.2.1 HKA.out.2.2.2.1 HKA.out.2.2.2.2 (Below.refl _ _)
    have heq1 := HEQ1.out; have heq2 := HEQ2.out
    clear hb2 hd2 HBa HBb HNE HD HDO hSr HK7
    go_upto_region 11 with fail
    rcases Bool.eq_false_or_eq_true zz with rfl | rfl
    · obtain rfl := HZT.out rfl
      refine wp_region_noPanic ?_
      refine wp_region_held_drew (S := fun w' => w'.cell? ⟨g, 0, none⟩ = some (.int .u8 r0) ∧ w'.cell? ⟨g, 1, none⟩ = some (.int .u8 r1) ∧ w'.cell? ⟨g, 2, none⟩ = some (.int .u8 r2) ∧ w'.cell? ⟨g, 3, none⟩ = some (.int .u8 r3) ∧ w'.cell? ⟨g, 4, none⟩ = some (.int .u8 r4) ∧ w'.cell? ⟨g, 5, none⟩ = some (.int .u8 r5) ∧ w'.cell? ⟨g, 6, none⟩ = some (.int .u8 r6) ∧ w'.cell? ⟨g, 7, none⟩ = some (.int .u8 r7) ∧ w'.cell? ⟨b1, k * 8, none⟩ = some (.int .u8 y0) ∧ w'.cell? ⟨b1, k * 8 + 1, none⟩ = some (.int .u8 y1) ∧ w'.cell? ⟨b1, k * 8 + 2, none⟩ = some (.int .u8 y2) ∧ w'.cell? ⟨b1, k * 8 + 3, none⟩ = some (.int .u8 y3) ∧ w'.cell? ⟨b1, k * 8 + 4, none⟩ = some (.int .u8 y4) ∧ w'.cell? ⟨b1, k * 8 + 5, none⟩ = some (.int .u8 y5) ∧ w'.cell? ⟨b1, k * 8 + 6, none⟩ = some (.int .u8 y6) ∧ w'.cell? ⟨b1, k * 8 + 7, none⟩ = some (.int .u8 y7) ∧ w'.cell? ⟨h, 0, none⟩ = some (.int .u8 x0) ∧ w'.cell? ⟨h, 1, none⟩ = some (.int .u8 x1) ∧ w'.cell? ⟨h, 2, none⟩ = some (.int .u8 x2) ∧ w'.cell? ⟨h, 3, none⟩ = some (.int .u8 x3) ∧ w'.cell? ⟨h, 4, none⟩ = some (.int .u8 x4) ∧ w'.cell? ⟨h, 5, none⟩ = some (.int .u8 x5) ∧ w'.cell? ⟨h, 6, none⟩ = some (.int .u8 x6) ∧ w'.cell? ⟨h, 7, none⟩ = some (.int .u8 x7) ∧ w'.cell? ⟨h2, 0, none⟩ = some (.int .u8 d0) ∧ w'.cell? ⟨h2, 1, none⟩ = some (.int .u8 d1) ∧ w'.cell? ⟨h2, 2, none⟩ = some (.int .u8 d2) ∧ w'.cell? ⟨h2, 3, none⟩ = some (.int .u8 d3) ∧ w'.cell? ⟨h2, 4, none⟩ = some (.int .u8 d4) ∧ w'.cell? ⟨h2, 5, none⟩ = some (.int .u8 d5) ∧ w'.cell? ⟨h2, 6, none⟩ = some (.int .u8 d6) ∧ w'.cell? ⟨h2, 7, none⟩ = some (.int .u8 d7)) (by kernel_rfl) hS9 (fun hHeld => ?_)
      refine wpAnyH_take (i := 0) (v := ?_) rfl (by kernel_rfl) (by kernel_rfl) (by kernel_rfl) (fun _ _ _ h => h) (Or.inl ⟨by rfl, ?_⟩) (by assumption) ?_
      rotate_left
      · intro w hSw
        (try dsimp only at hSw)
        go_simp
        try with_reducible rfl
      try simp only [Act.put, List.setIfInBounds_toArray, List.set_cons_zero, List.set_cons_succ, List.getElem_toArray, List.getElem_cons_zero, List.getElem_cons_succ]
      refine wpAnyH_take (i := 1) (v := ?_) rfl (by kernel_rfl) (by kernel_rfl) (by kernel_rfl) (fun _ _ _ h => h) (Or.inl ⟨by rfl, ?_⟩) (by assumption) ?_
      rotate_left
      · intro w hSw
        (try dsimp only at hSw)
        go_simp
        try with_reducible rfl
      try simp only [Act.put, List.setIfInBounds_toArray, List.set_cons_zero, List.set_cons_succ, List.getElem_toArray, List.getElem_cons_zero, List.getElem_cons_succ]
      refine wpAnyH_take (i := 2) (v := ?_) rfl (by kernel_rfl) (by kernel_rfl) (by kernel_rfl) (fun _ _ _ h => h) (Or.inl ⟨by rfl, ?_⟩) (by assumption) ?_
      rotate_left
      · intro w hSw
        (try dsimp only at hSw)
        go_simp
        try with_reducible rfl
      try simp only [Act.put, List.setIfInBounds_toArray, List.set_cons_zero, List.set_cons_succ, List.getElem_toArray, List.getElem_cons_zero, List.getElem_cons_succ]
      refine wpAnyH_take (i := 3) (v := ?_) rfl (by kernel_rfl) (by kernel_rfl) (by kernel_rfl) (fun _ _ _ h => h) (Or.inl ⟨by rfl, ?_⟩) (by assumption) ?_
      rotate_left
      · intro w hSw
        (try dsimp only at hSw)
        go_simp
        try with_reducible rfl
      try simp only [Act.put, List.setIfInBounds_toArray, List.set_cons_zero, List.set_cons_succ, List.getElem_toArray, List.getElem_cons_zero, List.getElem_cons_succ]
      refine wpAnyH_take (i := 5) (v := ?_) rfl (by kernel_rfl) (by kernel_rfl) (by kernel_rfl) (fun _ _ _ h => h) (Or.inl ⟨by rfl, ?_⟩) (by assumption) ?_
      rotate_left
      · intro w hSw
        (try dsimp only at hSw)
        go_simp
        try with_reducible rfl
      try simp only [Act.put, List.setIfInBounds_toArray, List.set_cons_zero, List.set_cons_succ, List.getElem_toArray, List.getElem_cons_zero, List.getElem_cons_succ]
      refine wpAnyH_take (i := 6) (v := ?_) rfl (by kernel_rfl) (by kernel_rfl) (by kernel_rfl) (fun _ _ _ h => h) (Or.inl ⟨by rfl, ?_⟩) (by assumption) ?_
      rotate_left
      · intro w hSw
        (try dsimp only at hSw)
        go_simp
        try with_reducible rfl
      try simp only [Act.put, List.setIfInBounds_toArray, List.set_cons_zero, List.set_cons_succ, List.getElem_toArray, List.getElem_cons_zero, List.getElem_cons_succ]
      refine wpAnyH_take (i := 7) (v := ?_) rfl (by kernel_rfl) (by kernel_rfl) (by kernel_rfl) (fun _ _ _ h => h) (Or.inl ⟨by rfl, ?_⟩) (by assumption) ?_
      rotate_left
      · intro w hSw
        (try dsimp only at hSw)
        go_simp
        try with_reducible rfl
      try simp only [Act.put, List.setIfInBounds_toArray, List.set_cons_zero, List.set_cons_succ, List.getElem_toArray, List.getElem_cons_zero, List.getElem_cons_succ]
      refine wpAnyH_ready (rs := [4]) (by kernel_rfl) (by simp) ?_
      refine AllReadyH.cons rfl (fun K hK => ?_) AllReadyH.nil
      go_simp
      (go_at_call 21; refine (Check_any _ [r0, r1, r2, r3, r4, r5, r6, r7] k [x0, x1, x2, x3, x4, x5, x6, x7] HRO.out HXD.out B4 N c4 ps HPO.out (HSP9.out.later (below_draws _ _ 1))).mono ?_; rintro e w10 ⟨rfl, hb10⟩; rw [HC.out]; have E10 : Hid (Below wc.heap.size wc w10) := ((below_draws wc _ 1).trans hb10); have hSa := cells_four HKA.out.1 HKA.out.2.1 HKA.out.2.2.1 HKA.out.2.2.2.1 HKA.out.2.2.2.2 E10.out; clear hb10)
      refine hK.out _ _ (hSa) (fun hHeld => ?_)
      clear hK K
      try simp only [Act.put, List.setIfInBounds_toArray, List.set_cons_zero, List.set_cons_succ, List.getElem_toArray, List.getElem_cons_zero, List.getElem_cons_succ]
      refine wpAnyH_take (i := 8) (v := ?_) rfl (by kernel_rfl) (by kernel_rfl) (by kernel_rfl) (fun _ _ _ h => h) (Or.inl ⟨by rfl, ?_⟩) (by assumption) ?_
      rotate_left
      · intro w hSw
        (try dsimp only at hSw)
        go_simp
        try with_reducible rfl
      try simp only [Act.put, List.setIfInBounds_toArray, List.set_cons_zero, List.set_cons_succ, List.getElem_toArray, List.getElem_cons_zero, List.getElem_cons_succ]
      refine wpAnyH_take (i := 9) (v := ?_) rfl (by kernel_rfl) (by kernel_rfl) (by kernel_rfl) (fun _ _ _ h => h) (Or.inl ⟨by rfl, ?_⟩) (by assumption) ?_
      rotate_left
      · intro w hSw
        (try dsimp only at hSw)
        go_simp
        try with_reducible rfl
      try simp only [Act.put, List.setIfInBounds_toArray, List.set_cons_zero, List.set_cons_succ, List.getElem_toArray, List.getElem_cons_zero, List.getElem_cons_succ]
      refine wpAnyH_take (i := 10) (v := ?_) rfl (by kernel_rfl) (by kernel_rfl) (by kernel_rfl) (fun _ _ _ h => h) (Or.inl ⟨by rfl, ?_⟩) (by assumption) ?_
      rotate_left
      · intro w hSw
        (try dsimp only at hSw)
        go_simp
        try with_reducible rfl
      try simp only [Act.put, List.setIfInBounds_toArray, List.set_cons_zero, List.set_cons_succ, List.getElem_toArray, List.getElem_cons_zero, List.getElem_cons_succ]
      refine wpAnyH_take (i := 11) (v := ?_) rfl (by kernel_rfl) (by kernel_rfl) (by kernel_rfl) (fun _ _ _ h => h) (Or.inl ⟨by rfl, ?_⟩) (by assumption) ?_
      rotate_left
      · intro w hSw
        (try dsimp only at hSw)
        go_simp
        try with_reducible rfl
      try simp only [Act.put, List.setIfInBounds_toArray, List.set_cons_zero, List.set_cons_succ, List.getElem_toArray, List.getElem_cons_zero, List.getElem_cons_succ]
      refine wpAnyH_take (i := 12) (v := ?_) rfl (by kernel_rfl) (by kernel_rfl) (by kernel_rfl) (fun _ _ _ h => h) (Or.inl ⟨by rfl, ?_⟩) (by assumption) ?_
      rotate_left
      · intro w hSw
        (try dsimp only at hSw)
        go_simp
        try with_reducible rfl
      try simp only [Act.put, List.setIfInBounds_toArray, List.set_cons_zero, List.set_cons_succ, List.getElem_toArray, List.getElem_cons_zero, List.getElem_cons_succ]
      refine wpAnyH_take (i := 13) (v := ?_) rfl (by kernel_rfl) (by kernel_rfl) (by kernel_rfl) (fun _ _ _ h => h) (Or.inl ⟨by rfl, ?_⟩) (by assumption) ?_
      rotate_left
      · intro w hSw
        (try dsimp only at hSw)
        go_simp
        try with_reducible rfl
      try simp only [Act.put, List.setIfInBounds_toArray, List.set_cons_zero, List.set_cons_succ, List.getElem_toArray, List.getElem_cons_zero, List.getElem_cons_succ]
      refine wpAnyH_take (i := 14) (v := ?_) rfl (by kernel_rfl) (by kernel_rfl) (by kernel_rfl) (fun _ _ _ h => h) (Or.inl ⟨by rfl, ?_⟩) (by assumption) ?_
      rotate_left
      · intro w hSw
        (try dsimp only at hSw)
        go_simp
        try with_reducible rfl
      try simp only [Act.put, List.setIfInBounds_toArray, List.set_cons_zero, List.set_cons_succ, List.getElem_toArray, List.getElem_cons_zero, List.getElem_cons_succ]
      refine wpAnyH_take (i := 15) (v := ?_) rfl (by kernel_rfl) (by kernel_rfl) (by kernel_rfl) (fun _ _ _ h => h) (Or.inl ⟨by rfl, ?_⟩) (by assumption) ?_
      rotate_left
      · intro w hSw
        (try dsimp only at hSw)
        go_simp
        try with_reducible rfl
      try simp only [Act.put, List.setIfInBounds_toArray, List.set_cons_zero, List.set_cons_succ, List.getElem_toArray, List.getElem_cons_zero, List.getElem_cons_succ]
      refine wpAnyH_take (i := 16) (v := ?_) rfl (by kernel_rfl) (by kernel_rfl) (by kernel_rfl) (fun _ _ _ h => h) (Or.inl ⟨by rfl, ?_⟩) (by assumption) ?_
      rotate_left
      · intro w hSw
        (try dsimp only at hSw)
        go_simp
        try with_reducible rfl
      try simp only [Act.put, List.setIfInBounds_toArray, List.set_cons_zero, List.set_cons_succ, List.getElem_toArray, List.getElem_cons_zero, List.getElem_cons_succ]
      refine wpAnyH_take (i := 17) (v := ?_) rfl (by kernel_rfl) (by kernel_rfl) (by kernel_rfl) (fun _ _ _ h => h) (Or.inl ⟨by rfl, ?_⟩) (by assumption) ?_
      rotate_left
      · intro w hSw
        (try dsimp only at hSw)
        go_simp
        try with_reducible rfl
      try simp only [Act.put, List.setIfInBounds_toArray, List.set_cons_zero, List.set_cons_succ, List.getElem_toArray, List.getElem_cons_zero, List.getElem_cons_succ]
      refine wpAnyH_take (i := 18) (v := ?_) rfl (by kernel_rfl) (by kernel_rfl) (by kernel_rfl) (fun _ _ _ h => h) (Or.inl ⟨by rfl, ?_⟩) (by assumption) ?_
      rotate_left
      · intro w hSw
        (try dsimp only at hSw)
        go_simp
        try with_reducible rfl
      try simp only [Act.put, List.setIfInBounds_toArray, List.set_cons_zero, List.set_cons_succ, List.getElem_toArray, List.getElem_cons_zero, List.getElem_cons_succ]
      refine wpAnyH_take (i := 19) (v := ?_) rfl (by kernel_rfl) (by kernel_rfl) (by kernel_rfl) (fun _ _ _ h => h) (Or.inl ⟨by rfl, ?_⟩) (by assumption) ?_
      rotate_left
      · intro w hSw
        (try dsimp only at hSw)
        go_simp
        try with_reducible rfl
      try simp only [Act.put, List.setIfInBounds_toArray, List.set_cons_zero, List.set_cons_succ, List.getElem_toArray, List.getElem_cons_zero, List.getElem_cons_succ]
      refine wpAnyH_take (i := 20) (v := ?_) rfl (by kernel_rfl) (by kernel_rfl) (by kernel_rfl) (fun _ _ _ h => h) (Or.inl ⟨by rfl, ?_⟩) (by assumption) ?_
      rotate_left
      · intro w hSw
        (try dsimp only at hSw)
        go_simp
        try with_reducible rfl
      try simp only [Act.put, List.setIfInBounds_toArray, List.set_cons_zero, List.set_cons_succ, List.getElem_toArray, List.getElem_cons_zero, List.getElem_cons_succ]
      refine wpAnyH_take (i := 21) (v := ?_) rfl (by kernel_rfl) (by kernel_rfl) (by kernel_rfl) (fun _ _ _ h => h) (Or.inl ⟨by rfl, ?_⟩) (by assumption) ?_
      rotate_left
      · intro w hSw
        (try dsimp only at hSw)
        go_simp
        try with_reducible rfl
      try simp only [Act.put, List.setIfInBounds_toArray, List.set_cons_zero, List.set_cons_succ, List.getElem_toArray, List.getElem_cons_zero, List.getElem_cons_succ]
      refine wpAnyH_take (i := 22) (v := ?_) rfl (by kernel_rfl) (by kernel_rfl) (by kernel_rfl) (fun _ _ _ h => h) (Or.inl ⟨by rfl, ?_⟩) (by assumption) ?_
      rotate_left
      · intro w hSw
        (try dsimp only at hSw)
        go_simp
        try with_reducible rfl
      try simp only [Act.put, List.setIfInBounds_toArray, List.set_cons_zero, List.set_cons_succ, List.getElem_toArray, List.getElem_cons_zero, List.getElem_cons_succ]
      refine wpAnyH_done (by kernel_rfl) ?_ _
      refine NoPanic.normal ?_
      have HBF := Lib.hid (HB1.out.trans ((HBC.out.trans (E10.out.mono HBC.out.size)).mono HB1.out.size))
      clear hS9 heq1 heq2 hSa hHeld
      go_wp2_with fail
      go_ret
      exact ⟨rfl, HBF.out⟩
    · clear HZT
      refine wp_region_noPanic ?_
      refine wp_region_held_drew (S := fun w' => w'.cell? ⟨g, 0, none⟩ = some (.int .u8 r0) ∧ w'.cell? ⟨g, 1, none⟩ = some (.int .u8 r1) ∧ w'.cell? ⟨g, 2, none⟩ = some (.int .u8 r2) ∧ w'.cell? ⟨g, 3, none⟩ = some (.int .u8 r3) ∧ w'.cell? ⟨g, 4, none⟩ = some (.int .u8 r4) ∧ w'.cell? ⟨g, 5, none⟩ = some (.int .u8 r5) ∧ w'.cell? ⟨g, 6, none⟩ = some (.int .u8 r6) ∧ w'.cell? ⟨g, 7, none⟩ = some (.int .u8 r7) ∧ w'.cell? ⟨b1, k * 8, none⟩ = some (.int .u8 y0) ∧ w'.cell? ⟨b1, k * 8 + 1, none⟩ = some (.int .u8 y1) ∧ w'.cell? ⟨b1, k * 8 + 2, none⟩ = some (.int .u8 y2) ∧ w'.cell? ⟨b1, k * 8 + 3, none⟩ = some (.int .u8 y3) ∧ w'.cell? ⟨b1, k * 8 + 4, none⟩ = some (.int .u8 y4) ∧ w'.cell? ⟨b1, k * 8 + 5, none⟩ = some (.int .u8 y5) ∧ w'.cell? ⟨b1, k * 8 + 6, none⟩ = some (.int .u8 y6) ∧ w'.cell? ⟨b1, k * 8 + 7, none⟩ = some (.int .u8 y7) ∧ w'.cell? ⟨h, 0, none⟩ = some (.int .u8 x0) ∧ w'.cell? ⟨h, 1, none⟩ = some (.int .u8 x1) ∧ w'.cell? ⟨h, 2, none⟩ = some (.int .u8 x2) ∧ w'.cell? ⟨h, 3, none⟩ = some (.int .u8 x3) ∧ w'.cell? ⟨h, 4, none⟩ = some (.int .u8 x4) ∧ w'.cell? ⟨h, 5, none⟩ = some (.int .u8 x5) ∧ w'.cell? ⟨h, 6, none⟩ = some (.int .u8 x6) ∧ w'.cell? ⟨h, 7, none⟩ = some (.int .u8 x7) ∧ w'.cell? ⟨h2, 0, none⟩ = some (.int .u8 d0) ∧ w'.cell? ⟨h2, 1, none⟩ = some (.int .u8 d1) ∧ w'.cell? ⟨h2, 2, none⟩ = some (.int .u8 d2) ∧ w'.cell? ⟨h2, 3, none⟩ = some (.int .u8 d3) ∧ w'.cell? ⟨h2, 4, none⟩ = some (.int .u8 d4) ∧ w'.cell? ⟨h2, 5, none⟩ = some (.int .u8 d5) ∧ w'.cell? ⟨h2, 6, none⟩ = some (.int .u8 d6) ∧ w'.cell? ⟨h2, 7, none⟩ = some (.int .u8 d7)) (by kernel_rfl) hS9 (fun hHeld => ?_)
      refine wpAnyH_take (i := 0) (v := ?_) rfl (by kernel_rfl) (by kernel_rfl) (by kernel_rfl) (fun _ _ _ h => h) (Or.inl ⟨by rfl, ?_⟩) (by assumption) ?_
      rotate_left
      · intro w hSw
        (try dsimp only at hSw)
        go_simp
        try with_reducible rfl
      try simp only [Act.put, List.setIfInBounds_toArray, List.set_cons_zero, List.set_cons_succ, List.getElem_toArray, List.getElem_cons_zero, List.getElem_cons_succ]
      refine wpAnyH_take (i := 1) (v := ?_) rfl (by kernel_rfl) (by kernel_rfl) (by kernel_rfl) (fun _ _ _ h => h) (Or.inl ⟨by rfl, ?_⟩) (by assumption) ?_
      rotate_left
      · intro w hSw
        (try dsimp only at hSw)
        go_simp
        try with_reducible rfl
      try simp only [Act.put, List.setIfInBounds_toArray, List.set_cons_zero, List.set_cons_succ, List.getElem_toArray, List.getElem_cons_zero, List.getElem_cons_succ]
      refine wpAnyH_take (i := 2) (v := ?_) rfl (by kernel_rfl) (by kernel_rfl) (by kernel_rfl) (fun _ _ _ h => h) (Or.inl ⟨by rfl, ?_⟩) (by assumption) ?_
      rotate_left
      · intro w hSw
        (try dsimp only at hSw)
        go_simp
        try with_reducible rfl
      try simp only [Act.put, List.setIfInBounds_toArray, List.set_cons_zero, List.set_cons_succ, List.getElem_toArray, List.getElem_cons_zero, List.getElem_cons_succ]
      refine wpAnyH_take (i := 3) (v := ?_) rfl (by kernel_rfl) (by kernel_rfl) (by kernel_rfl) (fun _ _ _ h => h) (Or.inl ⟨by rfl, ?_⟩) (by assumption) ?_
      rotate_left
      · intro w hSw
        (try dsimp only at hSw)
        go_simp
        try with_reducible rfl
      try simp only [Act.put, List.setIfInBounds_toArray, List.set_cons_zero, List.set_cons_succ, List.getElem_toArray, List.getElem_cons_zero, List.getElem_cons_succ]
      refine wpAnyH_take (i := 5) (v := ?_) rfl (by kernel_rfl) (by kernel_rfl) (by kernel_rfl) (fun _ _ _ h => h) (Or.inl ⟨by rfl, ?_⟩) (by assumption) ?_
      rotate_left
      · intro w hSw
        (try dsimp only at hSw)
        go_simp
        try with_reducible rfl
      try simp only [Act.put, List.setIfInBounds_toArray, List.set_cons_zero, List.set_cons_succ, List.getElem_toArray, List.getElem_cons_zero, List.getElem_cons_succ]
      refine wpAnyH_take (i := 6) (v := ?_) rfl (by kernel_rfl) (by kernel_rfl) (by kernel_rfl) (fun _ _ _ h => h) (Or.inl ⟨by rfl, ?_⟩) (by assumption) ?_
      rotate_left
      · intro w hSw
        (try dsimp only at hSw)
        go_simp
        try with_reducible rfl
      try simp only [Act.put, List.setIfInBounds_toArray, List.set_cons_zero, List.set_cons_succ, List.getElem_toArray, List.getElem_cons_zero, List.getElem_cons_succ]
      refine wpAnyH_take (i := 7) (v := ?_) rfl (by kernel_rfl) (by kernel_rfl) (by kernel_rfl) (fun _ _ _ h => h) (Or.inl ⟨by rfl, ?_⟩) (by assumption) ?_
      rotate_left
      · intro w hSw
        (try dsimp only at hSw)
        go_simp
        try with_reducible rfl
      try simp only [Act.put, List.setIfInBounds_toArray, List.set_cons_zero, List.set_cons_succ, List.getElem_toArray, List.getElem_cons_zero, List.getElem_cons_succ]
      refine wpAnyH_ready (rs := [4]) (by kernel_rfl) (by simp) ?_
      refine AllReadyH.cons rfl (fun K hK => ?_) AllReadyH.nil
      go_simp
      (go_at_call 21; refine (Check_any _ [r0, r1, r2, r3, r4, r5, r6, r7] k [x0, x1, x2, x3, x4, x5, x6, x7] HRO.out HXD.out B4 N c4 ps HPO.out (HSP9.out.later (below_draws _ _ 1))).mono ?_; rintro e w10 ⟨rfl, hb10⟩; rw [HC.out]; have E10 : Hid (Below wc.heap.size wc w10) := ((below_draws wc _ 1).trans hb10); have hSa := cells_four HKA.out.1 HKA.out.2.1 HKA.out.2.2.1 HKA.out.2.2.2.1 HKA.out.2.2.2.2 E10.out; clear hb10)
      refine hK.out _ _ (hSa) (fun hHeld => ?_)
      clear hK K
      try simp only [Act.put, List.setIfInBounds_toArray, List.set_cons_zero, List.set_cons_succ, List.getElem_toArray, List.getElem_cons_zero, List.getElem_cons_succ]
      refine wpAnyH_take (i := 8) (v := ?_) rfl (by kernel_rfl) (by kernel_rfl) (by kernel_rfl) (fun _ _ _ h => h) (Or.inl ⟨by rfl, ?_⟩) (by assumption) ?_
      rotate_left
      · intro w hSw
        (try dsimp only at hSw)
        go_simp
        try with_reducible rfl
      try simp only [Act.put, List.setIfInBounds_toArray, List.set_cons_zero, List.set_cons_succ, List.getElem_toArray, List.getElem_cons_zero, List.getElem_cons_succ]
      refine wpAnyH_take (i := 9) (v := ?_) rfl (by kernel_rfl) (by kernel_rfl) (by kernel_rfl) (fun _ _ _ h => h) (Or.inl ⟨by rfl, ?_⟩) (by assumption) ?_
      rotate_left
      · intro w hSw
        (try dsimp only at hSw)
        go_simp
        try with_reducible rfl
      try simp only [Act.put, List.setIfInBounds_toArray, List.set_cons_zero, List.set_cons_succ, List.getElem_toArray, List.getElem_cons_zero, List.getElem_cons_succ]
      refine wpAnyH_take (i := 10) (v := ?_) rfl (by kernel_rfl) (by kernel_rfl) (by kernel_rfl) (fun _ _ _ h => h) (Or.inl ⟨by rfl, ?_⟩) (by assumption) ?_
      rotate_left
      · intro w hSw
        (try dsimp only at hSw)
        go_simp
        try with_reducible rfl
      try simp only [Act.put, List.setIfInBounds_toArray, List.set_cons_zero, List.set_cons_succ, List.getElem_toArray, List.getElem_cons_zero, List.getElem_cons_succ]
      refine wpAnyH_take (i := 11) (v := ?_) rfl (by kernel_rfl) (by kernel_rfl) (by kernel_rfl) (fun _ _ _ h => h) (Or.inl ⟨by rfl, ?_⟩) (by assumption) ?_
      rotate_left
      · intro w hSw
        (try dsimp only at hSw)
        go_simp
        try with_reducible rfl
      try simp only [Act.put, List.setIfInBounds_toArray, List.set_cons_zero, List.set_cons_succ, List.getElem_toArray, List.getElem_cons_zero, List.getElem_cons_succ]
      refine wpAnyH_take (i := 12) (v := ?_) rfl (by kernel_rfl) (by kernel_rfl) (by kernel_rfl) (fun _ _ _ h => h) (Or.inl ⟨by rfl, ?_⟩) (by assumption) ?_
      rotate_left
      · intro w hSw
        (try dsimp only at hSw)
        go_simp
        try with_reducible rfl
      try simp only [Act.put, List.setIfInBounds_toArray, List.set_cons_zero, List.set_cons_succ, List.getElem_toArray, List.getElem_cons_zero, List.getElem_cons_succ]
      refine wpAnyH_take (i := 13) (v := ?_) rfl (by kernel_rfl) (by kernel_rfl) (by kernel_rfl) (fun _ _ _ h => h) (Or.inl ⟨by rfl, ?_⟩) (by assumption) ?_
      rotate_left
      · intro w hSw
        (try dsimp only at hSw)
        go_simp
        try with_reducible rfl
      try simp only [Act.put, List.setIfInBounds_toArray, List.set_cons_zero, List.set_cons_succ, List.getElem_toArray, List.getElem_cons_zero, List.getElem_cons_succ]
      refine wpAnyH_take (i := 14) (v := ?_) rfl (by kernel_rfl) (by kernel_rfl) (by kernel_rfl) (fun _ _ _ h => h) (Or.inl ⟨by rfl, ?_⟩) (by assumption) ?_
      rotate_left
      · intro w hSw
        (try dsimp only at hSw)
        go_simp
        try with_reducible rfl
      try simp only [Act.put, List.setIfInBounds_toArray, List.set_cons_zero, List.set_cons_succ, List.getElem_toArray, List.getElem_cons_zero, List.getElem_cons_succ]
      refine wpAnyH_take (i := 15) (v := ?_) rfl (by kernel_rfl) (by kernel_rfl) (by kernel_rfl) (fun _ _ _ h => h) (Or.inl ⟨by rfl, ?_⟩) (by assumption) ?_
      rotate_left
      · intro w hSw
        (try dsimp only at hSw)
        go_simp
        try with_reducible rfl
      try simp only [Act.put, List.setIfInBounds_toArray, List.set_cons_zero, List.set_cons_succ, List.getElem_toArray, List.getElem_cons_zero, List.getElem_cons_succ]
      refine wpAnyH_take (i := 16) (v := ?_) rfl (by kernel_rfl) (by kernel_rfl) (by kernel_rfl) (fun _ _ _ h => h) (Or.inl ⟨by rfl, ?_⟩) (by assumption) ?_
      rotate_left
      · intro w hSw
        (try dsimp only at hSw)
        go_simp
        try with_reducible rfl
      try simp only [Act.put, List.setIfInBounds_toArray, List.set_cons_zero, List.set_cons_succ, List.getElem_toArray, List.getElem_cons_zero, List.getElem_cons_succ]
      refine wpAnyH_take (i := 17) (v := undef) rfl (by kernel_rfl) (by kernel_rfl) (by kernel_rfl) (fun _ _ _ h => h) (Or.inr ⟨by rfl, rfl⟩) (by assumption) ?_
      try simp only [Act.put, List.setIfInBounds_toArray, List.set_cons_zero, List.set_cons_succ, List.getElem_toArray, List.getElem_cons_zero, List.getElem_cons_succ]
      refine wpAnyH_take (i := 18) (v := undef) rfl (by kernel_rfl) (by kernel_rfl) (by kernel_rfl) (fun _ _ _ h => h) (Or.inr ⟨by rfl, rfl⟩) (by assumption) ?_
      try simp only [Act.put, List.setIfInBounds_toArray, List.set_cons_zero, List.set_cons_succ, List.getElem_toArray, List.getElem_cons_zero, List.getElem_cons_succ]
      refine wpAnyH_take (i := 19) (v := undef) rfl (by kernel_rfl) (by kernel_rfl) (by kernel_rfl) (fun _ _ _ h => h) (Or.inr ⟨by rfl, rfl⟩) (by assumption) ?_
      try simp only [Act.put, List.setIfInBounds_toArray, List.set_cons_zero, List.set_cons_succ, List.getElem_toArray, List.getElem_cons_zero, List.getElem_cons_succ]
      refine wpAnyH_take (i := 20) (v := ?_) rfl (by kernel_rfl) (by kernel_rfl) (by kernel_rfl) (fun _ _ _ h => h) (Or.inl ⟨by rfl, ?_⟩) (by assumption) ?_
      rotate_left
      · intro w hSw
        (try dsimp only at hSw)
        go_simp
        try with_reducible rfl
      try simp only [Act.put, List.setIfInBounds_toArray, List.set_cons_zero, List.set_cons_succ, List.getElem_toArray, List.getElem_cons_zero, List.getElem_cons_succ]
      refine wpAnyH_take (i := 21) (v := ?_) rfl (by kernel_rfl) (by kernel_rfl) (by kernel_rfl) (fun _ _ _ h => h) (Or.inl ⟨by rfl, ?_⟩) (by assumption) ?_
      rotate_left
      · intro w hSw
        (try dsimp only at hSw)
        go_simp
        try with_reducible rfl
      try simp only [Act.put, List.setIfInBounds_toArray, List.set_cons_zero, List.set_cons_succ, List.getElem_toArray, List.getElem_cons_zero, List.getElem_cons_succ]
      refine wpAnyH_take (i := 22) (v := ?_) rfl (by kernel_rfl) (by kernel_rfl) (by kernel_rfl) (fun _ _ _ h => h) (Or.inl ⟨by rfl, ?_⟩) (by assumption) ?_
      rotate_left
      · intro w hSw
        (try dsimp only at hSw)
        go_simp
        try with_reducible rfl
      try simp only [Act.put, List.setIfInBounds_toArray, List.set_cons_zero, List.set_cons_succ, List.getElem_toArray, List.getElem_cons_zero, List.getElem_cons_succ]
      refine wpAnyH_done (by kernel_rfl) ?_ _
      refine NoPanic.normal ?_
      have HBF := Lib.hid (HB1.out.trans ((HBC.out.trans (E10.out.mono HBC.out.size)).mono HB1.out.size))
      clear hS9 heq1 heq2 hSa hHeld
      go_wp2_with fail
      go_ret
      exact ⟨rfl, HBF.out⟩
  · obtain rfl : m = 0 := by omega
    obtain ⟨B1, c1, rfl⟩ := own_form hown
    have HB1 := Lib.hid hb1
    clear hown hb1 hls hm
    go_wp2_with fail
    refine (told_any _).mono ?_
    rintro e w2 ⟨rfl, hb2⟩
    have HB2 := Lib.hid (below_then HB1.out hb2)
    go_wp2_with fail
    go_ret
    exact ⟨rfl, HB2.out⟩
theorem law_TreeChecks' (A : Option Addr) (n c : Nat) (vs : List Int) (i x : Int) (w : World) (hs : Sl w w.heap.size 1 A n (vs.map (.int .u16))) (hv : ∀ z ∈ vs, (Lit.int .u16 z).wf = true) (_ : (Lit.int .i64 i).wf = true) (hx : (Lit.int .u16 x).wf = true) :
    Calls Tryd.prog 5 #[.slice A n c, .int .i64 i, .int .u16 x] w fun e w' => e = .returned (.bool true) ∧ Below w.heap.size w w' := law_TreeChecks w A n c vs i x (u16_wf hv) hs (by
  have := u16_wf (vs := [x]) (by simpa using hx) x (by simp)
  exact this)
end Go.Proofs.YtimcjldehememaaDoor
