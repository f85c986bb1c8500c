/- TreeNones: the walk. -/
import Derived.Test.YtimcjldehememaaDoorT31
namespace Go.Proofs.YtimcjldehememaaDoor
open Go.RowKit

theorem make_dg5 (N : Nat) (hN : N ≤ 5000) (W : World) : (Instr.makeSlice 23 (.int .i64 (N : Int)) (.int .i64 (N : Int))).run Tryd.prog W = .ok (.slice (some ⟨W.heap.size, 0, none⟩) N N) (W.alloc (.cells (madeCells zeroC (N * 8)) 26)) := by
  obtain ⟨d0, hdi, hd0, hd1, hd2⟩ := info_parts Tryd.infoDg
  have := run_make (P := Tryd.prog) W 23 26 d0 (.agg (dgA zeroD)) Tryd.underlying23 hdi hd0 .i64 .i64 N N (by omega) (Int.le_refl _) (by rw [hd2]; omega) (by omega)
  rw [hd1, Int.toNat_natCast] at this
  exact this
theorem zeros_dg (n : Nat) : DsOk (List.replicate n zeroD) := fun d hd => by rw [List.eq_of_mem_replicate hd]; exact zeroD_ok
theorem root_nil : rootI [] = zeroD := by unfold rootI; rw [if_neg (by simp)]
theorem path_nil (i : Int) : pathL [] i = [] := by unfold pathL; rw [if_neg (by simp)]
/-- New of whatever row: a tree, or none. -/
theorem tNew_or (w : World) (A : Option Addr) (n c : Nat) (ls : List (List Int)) (ho : DsOk ls) (hs : Sl w w.heap.size 8 A n (cellsD ls)) :
    Calls Tryd.prog 24 #[.slice A n c] w fun e w' => ∃ (p : Option Addr) (x : Int), e = .returned (.tuple #[.pointer p, .int .i64 x]) ∧ (p.isSome = decide (1 ≤ n ∧ n ≤ 4096)) ∧ ((x == 0) = decide (1 ≤ n ∧ n ≤ 4096)) ∧ Below w.heap.size w w' := by
  by_cases hok : 1 ≤ n ∧ n ≤ 4096
  · refine (tNew_any w A n c ls ho hs hok).mono ?_
    rintro e w' ⟨T, hi, rfl, _, hb⟩
    exact ⟨_, _, rfl, by rw [decide_eq_true hok]; rfl, by rw [decide_eq_true hok]; rfl, hb⟩
  · refine (new_none w A n c hok).mono ?_
    rintro e w' ⟨rfl, rfl⟩
    exact ⟨_, _, rfl, by rw [decide_eq_false hok]; rfl, by rw [decide_eq_false hok]; rfl, Below.refl _ _⟩

theorem cells_u8 (qs : List (List Int)) (i : Nat) (h : i < (cellsD qs).length) : ∃ z, (cellsD qs)[i]? = some (.int .u8 z) := by
  have hm : (cellsD qs)[i] ∈ qs.flatMap (fun d => d.map (Value.int .u8)) := List.getElem_mem h
  obtain ⟨d, _, hd⟩ := List.mem_flatMap.1 hm
  obtain ⟨z, _, hz⟩ := List.mem_map.1 hd
  exact ⟨z, by rw [List.getElem?_eq_getElem h]; exact congrArg some hz.symm⟩
theorem height_0 (W : World) : Calls Tryd.prog 16 #[.int .i64 0] W fun e w' => e = .returned (.int .i64 (-1)) ∧ W = w' := theight_any 0 W
theorem TreeOf.lohi' {w : World} {lo hi : Nat} {T : Tr} {ls : List (List Int)} (t : TreeOf w lo hi T ls) : lo < hi := by
  obtain ⟨ns, t, _⟩ := t
  have := t.blo.1
  have := t.bhi.1
  omega

set_option maxRecDepth 20000 in
set_option maxHeartbeats 8000000 in
theorem law_TreeNones (w : World) (many : Int) (A : Option Addr) (n c : Nat) (vs : List Int) (bv : Int) (hbv : 0 ≤ bv ∧ bv < 256) (ho : U16 vs) (hs : Sl w w.heap.size 1 A n (vs.map (.int .u16))) :
    Calls Tryd.prog 10 #[.int .i64 many, .slice A n c, .int .u8 bv] w fun e w' => e = .returned (.bool true) ∧ Below w.heap.size w w' := by
  have hn := hs.le
  have hvl : vs.length = n := hs.length
  have HS := Lib.hid hs; have HO := Lib.hid ho; have HVL := Lib.hid hvl; have HBV := Lib.hid hbv
  clear hs ho hvl hbv
  obtain ⟨k, hk, hk5, hk6, hk0, hk12⟩ : ∃ k : Int, Int.tmod (IntKind.u64.wrap many) 12 = k ∧ IntKind.u64.wrap k = k ∧ IntKind.i64.wrap k = k ∧ 0 ≤ k ∧ k < 12 := by
    obtain ⟨j, hj, hjm⟩ := rem_at (IntKind.u64.wrap many) 12 (by rw [IntKind.wrap_u64]; omega) (by decide)
    exact ⟨j, hj, by rw [IntKind.wrap_u64]; omega, by rw [IntKind.wrap_i64]; omega, by omega, by omega⟩
  obtain ⟨N, hN, hN0, hN5⟩ : ∃ N : Nat, 4090 + k = (N : Int) ∧ 1 ≤ N ∧ N ≤ 5000 := ⟨(4090 + k).toNat, by omega, by omega, by omega⟩
  have HN := Lib.hid hN
  have hmk := make_dg5 N hN5
  go_enter Tryd.func10, Tryd.ntmps10
  go_upto_region 2 with fail
  go_wp2_with fail
  obtain ⟨w1, hw1⟩ : ∃ w1, w.alloc (.cells (madeCells zeroC (N * 8)) 26) = w1 := ⟨_, rfl⟩
  obtain ⟨g0, hg0⟩ : ∃ g0, w.heap.size = g0 := ⟨_, rfl⟩
  have hz : Bk w1 g0 26 (cellsD (List.replicate N zeroD)) := hw1 ▸ Bk.at_ _ _ _ hg0 (made8 N)
  have HB1 : Hid (Below w.heap.size w w1) := hw1 ▸ below_new w _
  have HSZ : Hid (Sl w1 w1.heap.size 8 (some ⟨g0, 0, none⟩) N (cellsD (List.replicate N zeroD))) := by
    have := RowAt.sl (RowAt.all (zeros_dg N) hz) (zeros_dg N) (by rw [List.length_replicate]; omega)
    rw [List.length_replicate] at this
    exact this
  rw [hw1, hg0]
  clear hw1 hg0 hz hmk hk hk5 hk6 hk0 hk12 hN
  go_at_call 24
  refine (tNew_or _ _ N N (List.replicate N zeroD) (zeros_dg N) HSZ.out).mono ?_
  rintro e w2 ⟨p, x, rfl, hp, hx, hb2⟩
  have HP := Lib.hid hp; have HX := Lib.hid hx
  have HB2 := Lib.hid (below_then HB1.out hb2)
  clear hp hx hb2 HSZ HB1
  go_wp2_with fail
  go_at_call 12
  refine (treeRoot_any _ none 0 0 [] (fun d hd => by cases hd) Sl.nil).mono ?_
  rintro e w3 ⟨rfl, hb3⟩
  rw [root_nil, show rootE 0 = 2 from rfl, show dgA zeroD = #[.int .u8 0, .int .u8 0, .int .u8 0, .int .u8 0, .int .u8 0, .int .u8 0, .int .u8 0, .int .u8 0] from rfl]
  have HB3 := Lib.hid (below_then HB2.out hb3)
  clear hb3 HB2
  go_upto_region 4 with fail
  obtain ⟨w4, hw4⟩ : ∃ w4, w3.alloc (.cells #[.int .u8 0, .int .u8 0, .int .u8 0, .int .u8 0, .int .u8 0, .int .u8 0, .int .u8 0, .int .u8 0] 26) = w4 := ⟨_, rfl⟩
  have HB4 : Hid (Below w.heap.size w w4) := below_then HB3.out (hw4 ▸ below_new w3 _)
  rw [hw4]
  clear hw4
  go_wp2_with fail
  go_at_call 18
  refine (treePath_any _ none 0 0 0 [] (fun d hd => by cases hd) Sl.nil).mono ?_
  rintro e w5 ⟨⟨v, rfl, hown⟩, hb5⟩
  obtain ⟨B5, c5, rfl⟩ := own_form hown
  rw [path_nil, show pathE 0 0 = 2 from rfl]
  have HB5 := Lib.hid (below_then HB4.out hb5)
  clear hown hb5 HB4 HB3
  go_wp2_with fail
  go_at_call 28
  refine (tPath_nil _ 0).mono ?_
  rintro e w6 ⟨rfl, rfl⟩
  go_wp2_with fail
  go_at_call 29
  refine (tLeaf_nil _ 0).mono ?_
  rintro e w7 ⟨rfl, hb7⟩
  rw [show dgA zeroD = #[.int .u8 0, .int .u8 0, .int .u8 0, .int .u8 0, .int .u8 0, .int .u8 0, .int .u8 0, .int .u8 0] from rfl]
  have HB7 := Lib.hid (below_then HB5.out hb7)
  clear hb7 HB5
  go_upto_region 8 with fail
  obtain ⟨w8, hw8⟩ : ∃ w8, w7.alloc (.cells #[.int .u8 0, .int .u8 0, .int .u8 0, .int .u8 0, .int .u8 0, .int .u8 0, .int .u8 0, .int .u8 0] 26) = w8 := ⟨_, rfl⟩
  have HB8 : Hid (Below w.heap.size w w8) := below_then HB7.out (hw8 ▸ below_new w7 _)
  rw [hw8]
  clear hw8 HB7
  have heq0 : ∀ W, (Op.equalIn 10000 26 (.agg #[.int .u8 0, .int .u8 0, .int .u8 0, .int .u8 0, .int .u8 0, .int .u8 0, .int .u8 0, .int .u8 0]) (.agg #[.int .u8 0, .int .u8 0, .int .u8 0, .int .u8 0, .int .u8 0, .int .u8 0, .int .u8 0, .int .u8 0])).run Tryd.prog W = .ok true W := fun W => (dg_equal 0 0 0 0 0 0 0 0 0 0 0 0 0 0 0 0 W).trans (by rw [eqL_self])
  go_cut [127] (fun s wx => s = .bool false ∧ Below w8.heap.size w8 wx)
  case first =>
    by_cases hok : N ≤ 4096
    · have hp := HP.out; have hx := HX.out
      rw [decide_eq_true ⟨hN0, hok⟩] at hp hx
      obtain ⟨ap, rfl⟩ := Option.isSome_iff_exists.1 hp
      obtain rfl : x = 0 := by simpa using hx
      have hok1 : (N : Int) ≤ 4096 := by omega
      have hok2 : decide ((N : Int) ≤ 4096) = true := decide_eq_true hok1
      have hok3 : decide (N ≤ 4096) = true := decide_eq_true hok
      clear hp hx HP HX
      go_wp2_with fail
      go_at_call 15
      refine (told_any _).mono ?_
      rintro e y1 ⟨rfl, h1⟩
      have H1 := Lib.hid h1
      clear h1
      go_wp2_with fail
      go_at_call 25
      refine (tSet_nil _ 0 [0, 0, 0, 0, 0, 0, 0, 0]).mono ?_
      rintro e y2 ⟨rfl, h2⟩
      have H2 := Lib.hid (below_then H1.out h2)
      clear h2 H1
      go_wp2_with fail
      go_at_call 27
      refine (tLen_nil _).mono ?_
      rintro e y3 ⟨rfl, rfl⟩
      go_wp2_with fail
      go_at_call 26
      refine (tRoot_nil _).mono ?_
      rintro e y4 ⟨rfl, h4⟩
      rw [show dgA zeroD = #[.int .u8 0, .int .u8 0, .int .u8 0, .int .u8 0, .int .u8 0, .int .u8 0, .int .u8 0, .int .u8 0] from rfl]
      have H4 := Lib.hid (below_then H2.out h4)
      clear h4 H2
      go_wp2_with fail
      go_at_call 30
      refine (tClone_nil _).mono ?_
      rintro e y5 ⟨rfl, rfl⟩
      go_wp2_with fail
      go_at_call 31
      refine (tSame_nil_both _).mono ?_
      rintro e y6 ⟨rfl, rfl⟩
      go_wp2_with fail
      go_at_call 16
      refine (theight_any N _).mono ?_
      rintro e y7 ⟨rfl, rfl⟩
      go_wp2_with fail
      go_at_call 17
      refine (rheight_any N _).mono ?_
      rintro e y8 ⟨rfl, rfl⟩
      go_wp2_with fail
      go_at_call 16
      refine (height_0 _).mono ?_
      rintro e y9 ⟨rfl, rfl⟩
      go_wp2_with fail
      go_meet
      go_light
      exact ⟨rfl, H4.out⟩
    · have hp := HP.out; have hx := HX.out
      rw [decide_eq_false (fun h => hok h.2)] at hp hx
      obtain rfl : p = none := by cases p; rfl; cases hp
      have hx2 : ¬ x = 0 := by intro h; rw [h] at hx; cases hx
      have hok1 : ¬ (N : Int) ≤ 4096 := by omega
      have hok2 : decide ((N : Int) ≤ 4096) = false := decide_eq_false hok1
      have hok3 : decide (N ≤ 4096) = false := decide_eq_false hok
      clear hp HP HX
      go_wp2_with fail
      go_at_call 15
      refine (told_any _).mono ?_
      rintro e y1 ⟨rfl, h1⟩
      have H1 := Lib.hid h1
      clear h1
      go_wp2_with fail
      go_at_call 25
      refine (tSet_nil _ 0 [0, 0, 0, 0, 0, 0, 0, 0]).mono ?_
      rintro e y2 ⟨rfl, h2⟩
      have H2 := Lib.hid (below_then H1.out h2)
      clear h2 H1
      go_wp2_with fail
      go_at_call 27
      refine (tLen_nil _).mono ?_
      rintro e y3 ⟨rfl, rfl⟩
      go_wp2_with fail
      go_at_call 26
      refine (tRoot_nil _).mono ?_
      rintro e y4 ⟨rfl, h4⟩
      rw [show dgA zeroD = #[.int .u8 0, .int .u8 0, .int .u8 0, .int .u8 0, .int .u8 0, .int .u8 0, .int .u8 0, .int .u8 0] from rfl]
      have H4 := Lib.hid (below_then H2.out h4)
      clear h4 H2
      go_wp2_with fail
      go_at_call 30
      refine (tClone_nil _).mono ?_
      rintro e y5 ⟨rfl, rfl⟩
      go_wp2_with fail
      go_at_call 31
      refine (tSame_nil_both _).mono ?_
      rintro e y6 ⟨rfl, rfl⟩
      go_wp2_with fail
      go_at_call 16
      refine (theight_any N _).mono ?_
      rintro e y7 ⟨rfl, rfl⟩
      go_wp2_with fail
      go_at_call 17
      refine (rheight_any N _).mono ?_
      rintro e y8 ⟨rfl, rfl⟩
      go_wp2_with fail
      go_at_call 16
      refine (height_0 _).mono ?_
      rintro e y9 ⟨rfl, rfl⟩
      go_wp2_with fail
      go_meet
      go_light
      exact ⟨rfl, H4.out⟩
  obtain ⟨rfl, hbc⟩ := hcut
  have HBC := Lib.hid (below_then HB8.out hbc)
  clear hbc heq0 HB8
  go_wp2_with fail
  go_at_call 11
  refine (some_any _ A n c vs HO.out (HS.out.later HBC.out) 10 (by decide)).mono ?_
  rintro e v1 ⟨⟨v, rfl, hown⟩, hb1⟩
  obtain ⟨m, hm, hm7⟩ : ∃ m, min 10 n = m ∧ m ≤ 10 := ⟨_, rfl, Nat.min_le_left _ _⟩
  have hlen : (someI vs 10).length = m := by rw [someI_len, HVL.out, hm]
  rw [hm] at hown
  have hdo := someI_ok HO.out 10
  obtain ⟨ls, hls⟩ : ∃ ls, someI vs 10 = ls := ⟨_, rfl⟩
  rw [hls] at hlen hdo hown
  have HB1 := Lib.hid (below_then HBC.out hb1)
  by_cases hm0 : 0 < m
  · obtain ⟨b1, c1, rfl, hgb, hgc⟩ := hown.form hm0
    obtain ⟨y, hy⟩ : ∃ y, ls[0]? = some y := ⟨ls[0]'(by omega), List.getElem?_eq_getElem _⟩
    have hyo := hdo y (List.mem_of_getElem? hy)
    obtain ⟨y0, y1, y2, y3, y4, y5, y6, y7, rfl⟩ := list8 y hyo.len
    obtain ⟨r0, r1, r2, r3, r4, r5, r6, r7, hrr⟩ := list8 (rootI ls) (rootI_ok _).len
    obtain ⟨qs, hqs⟩ : ∃ qs, pathL ls 0 = qs := ⟨_, rfl⟩
    have hl4 : ls.length ≤ 4096 := by omega
    have HLF : Hid (leafI ls 0 = [y0, y1, y2, y3, y4, y5, y6, y7]) := by
      show _ = _
      unfold leafI
      rw [if_pos ⟨by omega, by omega⟩, List.getD_eq_getElem?_getD, show (0 : Int).toNat = 0 from rfl, hy]
      rfl
    have HHB : Hid (hasB ls.length 0 = true) := decide_eq_true ⟨by omega, by omega⟩
    have HCK : Hid (checkI [r0, r1, r2, r3, r4, r5, r6, r7] 0 [y0, y1, y2, y3, y4, y5, y6, y7] qs = true) := by
      show _ = _
      rw [← hqs, ← hrr]
      exact check_at (i := 0) hy hl4
    have HPE : Hid (pathE ls.length 0 = 0) := by show _ = _; rw [pathE, if_pos ⟨by omega, by omega⟩, if_pos ⟨by omega, by omega⟩]
    have hqo : DsOk qs := hqs ▸ pathL_ok ls 0
    have hql : qs.length ≤ 12 := hqs ▸ pathL_small ls 0
    have HRO : Hid (DgOk [r0, r1, r2, r3, r4, r5, r6, r7]) := by show DgOk _; rw [← hrr]; exact rootI_ok _
    have HYO := Lib.hid hyo; have HQO := Lib.hid hqo; have HQS := Lib.hid hqs
    have HR := Lib.hid hrr; have HDO := Lib.hid hdo; have HL := Lib.hid hlen
    have HSL := Lib.hid (Sl.of_own hown)
    have hrg : v1.rangeAt b1 (0 * 8) ([y0, y1, y2, y3, y4, y5, y6, y7].map (Value.int .u8)) := by have := sl_dg (Sl.of_own hown) hdo hy; rw [Nat.zero_add] at this; exact this
    rw [Nat.zero_mul] at hrg
    have HRG := Lib.hid hrg
    have HROW := Lib.hid (own_row hown hlen)
    have hm1 : ((m : Int) == 0) = false := by simp; omega
    have hm3 : ¬ (m : Int) = 0 := by omega
    have hm4 : (0 : Int) < m := by omega
    clear hown hdo hls hrr hlen hy hyo hqs hqo hm HS HO HVL hb1 hrg
    go_wp2_with fail
    go_at_call 24
    refine (tNew_any _ _ m c1 ls HDO.out HSL.out ⟨hm0, by omega⟩).mono ?_
    rintro e v2 ⟨T, hi, rfl, ht, hb2⟩
    obtain ⟨lo, hlo⟩ : ∃ lo, v1.heap.size = lo := ⟨_, rfl⟩
    rw [hlo] at ht hgc
    have hlohi := ht.lohi'
    have HT2 := Lib.hid ht
    have HB2 := Lib.hid hb2
    have HLO := Lib.hid hlo
    clear ht hb2 hlo
    go_wp2_with fail
    go_at_call 26
    refine (tRoot_any _ lo hi T ls HT2.out).mono ?_
    rintro e v3 ⟨rfl, hb3⟩
    rw [HR.out, show dgA [r0, r1, r2, r3, r4, r5, r6, r7] = #[.int .u8 r0, .int .u8 r1, .int .u8 r2, .int .u8 r3, .int .u8 r4, .int .u8 r5, .int .u8 r6, .int .u8 r7] from rfl]
    have HB3 := Lib.hid hb3
    clear hb3
    go_upto_region 15 with fail
    obtain ⟨v4, hv4⟩ : ∃ v4, v3.alloc (.cells #[.int .u8 r0, .int .u8 r1, .int .u8 r2, .int .u8 r3, .int .u8 r4, .int .u8 r5, .int .u8 r6, .int .u8 r7] 26) = v4 := ⟨_, rfl⟩
    obtain ⟨h, hh⟩ : ∃ h, v3.heap.size = h := ⟨_, rfl⟩
    have k4 : DgAt v4 h 26 [r0, r1, r2, r3, r4, r5, r6, r7] := hv4 ▸ Bk.at_ _ _ _ hh rfl
    have hb4 := below_then HB3.out (hv4 ▸ below_new v3 _)
    have HT4 := Lib.hid (HT2.out.later hb4)
    have HK4 := Lib.hid k4
    have hb14 := below_then HB2.out hb4
    have hb1v : b1 < v1.heap.size := by have := HLO.out; omega
    have HB4 := Lib.hid (below_then HB1.out hb14)
    obtain ⟨ys, hyb, hyl, hyt⟩ := RowAt.to HROW.out (hb14.block b1 hb1v)
    obtain ⟨zc0, zc1, zc2, zc3, zc4, zc5, zc6, zc7⟩ := range8 (range_below HRG.out hb14 hb1v)
    have zf := Bk.frozen hyb
    have HYB := Lib.hid hyb
    have hhi : hi ≤ h := by have := HT2.out.hih; have := HB3.out.size; omega
    have HHI := Lib.hid hhi
    rw [hv4, hh]
    clear hv4 hh k4 hb4 hb14 hyb hyl hyt HB3 HT2 HB2 HROW HRG HSL
    go_region
    obtain ⟨v5, hv5⟩ : ∃ v5, (v4.setCell ⟨b1, 5, none⟩ (.int .u8 ((y5 + bv) % 256))).drew = v5 := ⟨_, rfl⟩
    have hgr : v4.grownBy v5 (some b1) := hv5 ▸ only_drew (only_set (only_refl v4 b1) 5 _)
    have HT5 : Hid (TreeOf v5 lo hi T ls) := HT4.out.keep hgr.size fun b hb1 hb2 => hgr.block b (Nat.lt_of_lt_of_le hb2 HT4.out.hih) (by intro e; injection e with e; omega)
    have HK5 : Hid (DgAt v5 h 26 [r0, r1, r2, r3, r4, r5, r6, r7]) := Bk.grown HK4.out hgr (by intro e; injection e with e; omega)
    have HB5 := Lib.hid (below_only HB4.out hgr HB4.out.size (by have := HBC.out.size; omega))
    rw [hv5]
    clear hv5 hgr HT4 HK4 HB4 zc0 zc1 zc2 zc3 zc4 zc5 zc6 zc7 zf HYB
    go_wp2_with fail
    go_at_call 28
    refine (tPath_any _ lo hi T ls HT5.out 0).mono ?_
    rintro e v6 ⟨⟨v, rfl, hown⟩, hb6⟩
    obtain ⟨B6, c6, rfl⟩ := own_form hown
    obtain ⟨Nq, hNq⟩ : ∃ Nq, qs.length = Nq := ⟨_, rfl⟩
    rw [HQS.out, hNq] at hown
    rw [HQS.out, hNq, HPE.out]
    have hNq12 : Nq ≤ 12 := by omega
    have HOW := Lib.hid hown
    have HNQ := Lib.hid hNq
    have HT6 := Lib.hid (HT5.out.later hb6)
    have HK6 := Lib.hid (HK5.out.later hb6)
    have HB6 := Lib.hid (HB5.out.trans (hb6.mono HB5.out.size))
    have hlh : h < v5.heap.size := Bk.lt HK5.out
    have hlw : w.heap.size ≤ v5.heap.size := HB5.out.size
    clear hown hb6 hNq HT5 HK5 HB5
    go_upto_region 17 with fail
    go_cut [25] (fun a wx => a = .int .i64 0 ∧ v6 = wx)
    case first =>
      go_wp2_with fail
      go_meet
      go_light
      exact ⟨rfl, rfl⟩
    obtain ⟨rfl, hv6⟩ := hcut
    subst hv6
    refine ‹∀ (a : Act) (w : World), Code.wp _ _ _ a w → _› _ _ ?_
    go_cut [25] (fun a wx => Hid (TreeOf wx lo hi T ls) ∧ Hid (DgAt wx h 26 [r0, r1, r2, r3, r4, r5, r6, r7]) ∧ Hid (Below w.heap.size w wx))
    case first =>
      by_cases hq0 : 0 < Nq
      · obtain ⟨gp, cp, heq, hgp, hgpl⟩ := HOW.out.form hq0
        simp only [Value.slice.injEq] at heq
        obtain ⟨rfl, -, rfl⟩ := heq
        obtain ⟨ys, hyb, hyl, hyt⟩ := own_row HOW.out HNQ.out
        have hin0 : ∀ i, i < Nq * 8 → ∃ z, ys[i]? = some (.int .u8 z) := fun i hi => by
          have hc : (cellsD qs).length = Nq * 8 := by rw [cellsD_len HQO.out, HNQ.out]
          rw [HNQ.out] at hyt
          have h1 : ys[i]? = (cellsD qs)[i]? := by rw [← hyt, List.getElem?_take, if_pos hi]
          obtain ⟨z, hz⟩ := cells_u8 qs i (by omega)
          exact ⟨z, h1.trans hz⟩
        have HIN0 : Hid (∃ zs, Bk v6 gp 26 zs ∧ ∀ i, i < Nq * 8 → ∃ z, zs[i]? = some (.int .u8 z)) := ⟨ys, hyb, hin0⟩
        have hghi : hi ≤ gp := by omega
        have hgph : h < gp := by omega
        clear hyb hyl hyt hin0
        go_wp2_with fail
        go_loopw [25] (fun iv wr => ∃ q : Nat, q ≤ Nq ∧ iv = .int .i64 q ∧ Hid (∃ zs, Bk wr gp 26 zs ∧ ∀ i, i < Nq * 8 → ∃ z, zs[i]? = some (.int .u8 z)) ∧ Hid (TreeOf wr lo hi T ls) ∧ Hid (DgAt wr h 26 [r0, r1, r2, r3, r4, r5, r6, r7]) ∧ Hid (Below w.heap.size w wr)) (fun iv _ => Nq - (intOf iv).toNat)
        case atStart => exact ⟨0, by omega, rfl, HIN0.out, HT6.out, HK6.out, HB6.out⟩
        case round =>
          obtain ⟨q, hq, rfl, HIN, HT, HK, HB⟩ := hrel
          by_cases hqn : q < Nq
          · obtain ⟨zs, hzb, hza⟩ := HIN.out
            obtain ⟨z, hz⟩ := hza (q * 8) (by omega)
            have hcz : wr.cell? ⟨gp, q * 8, none⟩ = some (.int .u8 z) := by rw [Bk.cell hzb]; exact hz
            have zf := Bk.frozen hzb
            have q1 : (q : Int) < Nq := by omega
            have q0 : (0 : Int) ≤ q := by omega
            have HZB := Lib.hid hzb; have HZA := Lib.hid hza
            clear hzb hza hz
            go_wp2_with fail
            go_region
            have hgr : wr.grownBy (wr.setCell ⟨gp, q * 8, none⟩ (.int .u8 ((z + bv) % 256))).drew (some gp) := only_drew (only_set (only_refl wr gp) (q * 8) _)
            have HT2 : Hid (TreeOf (wr.setCell ⟨gp, q * 8, none⟩ (.int .u8 ((z + bv) % 256))).drew lo hi T ls) := HT.out.keep hgr.size fun b hb1 hb2 => hgr.block b (Nat.lt_of_lt_of_le hb2 HT.out.hih) (by intro e; injection e with e; omega)
            have HK2 : Hid (DgAt (wr.setCell ⟨gp, q * 8, none⟩ (.int .u8 ((z + bv) % 256))).drew h 26 [r0, r1, r2, r3, r4, r5, r6, r7]) := Bk.grown HK.out hgr (by intro e; injection e with e; omega)
            have HB2 := Lib.hid (below_only HB.out hgr HB.out.size (by omega))
            have HIN2 : Hid (∃ zs, Bk (wr.setCell ⟨gp, q * 8, none⟩ (.int .u8 ((z + bv) % 256))).drew gp 26 zs ∧ ∀ i, i < Nq * 8 → ∃ z, zs[i]? = some (.int .u8 z)) :=
              ⟨_, (Bk.set_ HZB.out (q * 8) _).drew, fun i hi => by
                by_cases he : i = q * 8
                · subst he
                  obtain ⟨z', hz'⟩ := HZA.out (q * 8) hi
                  exact ⟨_, List.getElem?_set_self (List.getElem?_eq_some_iff.1 hz').1⟩
                · rw [List.getElem?_set_ne (fun e => he e.symm)]; exact HZA.out i hi⟩
            clear hcz zf hgr
            go_wp2_with fail
            go_roundw
            case rel => exact ⟨q + 1, by omega, by go_num, HIN2, HT2, HK2, HB2⟩
            case measure => simp [intOf]; omega
          · obtain rfl : q = Nq := by omega
            go_wp2_with fail
            go_meet
            go_light
            exact ⟨HT, HK, HB⟩
      · obtain rfl : Nq = 0 := by omega
        go_wp2_with fail
        go_loopw [25] (fun iv wr => iv = .int .i64 0 ∧ wr = v6) (fun _ _ => 0)
        case atStart => exact ⟨rfl, rfl⟩
        case round =>
          obtain ⟨rfl, rfl⟩ := hrel
          go_wp2_with fail
          go_meet
          go_light
          exact ⟨HT6, HK6, HB6⟩
    obtain ⟨HTC, HKC, HBX⟩ := hcut
    clear HT6 HK6 HB6 HOW
    go_wp2_with fail
    go_at_call 28
    refine (tPath_any _ lo hi T ls HTC.out 0).mono ?_
    rintro e v7 ⟨⟨v, rfl, hown⟩, hb7⟩
    obtain ⟨B7, c7, rfl⟩ := own_form hown
    obtain ⟨Nr, hNr⟩ : ∃ Nr, qs.length = Nr := ⟨_, rfl⟩
    rw [HQS.out, hNr] at hown
    rw [HQS.out, hNr, HPE.out]
    have HSQ := Lib.hid (Sl.of_own hown)
    have HB7 := Lib.hid hb7
    clear hown hb7 hNr
    go_wp2_with fail
    go_at_call 29
    refine (tLeaf_any _ lo hi T ls (HTC.out.later HB7.out) 0).mono ?_
    rintro e v8 ⟨rfl, hb8⟩
    rw [HLF.out, HHB.out, show dgA [y0, y1, y2, y3, y4, y5, y6, y7] = #[.int .u8 y0, .int .u8 y1, .int .u8 y2, .int .u8 y3, .int .u8 y4, .int .u8 y5, .int .u8 y6, .int .u8 y7] from rfl]
    have HB8 := Lib.hid (below_then HB7.out hb8)
    have HSQ8 := Lib.hid (HSQ.out.later hb8)
    clear hb8 HB7 HSQ
    go_upto_region 23 with fail
    obtain ⟨v9, hv9⟩ : ∃ v9, v8.alloc (.cells #[.int .u8 y0, .int .u8 y1, .int .u8 y2, .int .u8 y3, .int .u8 y4, .int .u8 y5, .int .u8 y6, .int .u8 y7] 26) = v9 := ⟨_, rfl⟩
    obtain ⟨h2, hh2⟩ : ∃ h2, v8.heap.size = h2 := ⟨_, rfl⟩
    have k9 : DgAt v9 h2 26 [y0, y1, y2, y3, y4, y5, y6, y7] := hv9 ▸ Bk.at_ _ _ _ hh2 rfl
    have hbn : Below v8.heap.size v8 v9 := hv9 ▸ below_new v8 _
    have hb9 := below_then HB8.out hbn
    have HKK : Hid (DgAt v9 h 26 [r0, r1, r2, r3, r4, r5, r6, r7] ∧ DgAt v9 h2 26 [y0, y1, y2, y3, y4, y5, y6, y7]) := ⟨HKC.out.later hb9, k9⟩
    have HT9 := Lib.hid (HTC.out.later hb9)
    have HSQ9 := Lib.hid (HSQ8.out.later hbn)
    have HB9 := Lib.hid (HBX.out.trans (hb9.mono HBX.out.size))
    rw [hv9, hh2]
    clear hv9 hh2 k9 hbn hb9 HB8 HSQ8
    have hS9 := cells_two HKK.out.1 HKK.out.2 (Below.refl _ _)
    have heq1 : ∀ W, (Op.equalIn 10000 26 (.agg #[.int .u8 r0, .int .u8 r1, .int .u8 r2, .int .u8 r3, .int .u8 r4, .int .u8 r5, .int .u8 r6, .int .u8 r7]) (.agg #[.int .u8 r0, .int .u8 r1, .int .u8 r2, .int .u8 r3, .int .u8 r4, .int .u8 r5, .int .u8 r6, .int .u8 r7])).run Tryd.prog W = .ok true W := fun W => (dg_equal r0 r1 r2 r3 r4 r5 r6 r7 r0 r1 r2 r3 r4 r5 r6 r7 W).trans (by rw [eqL_self])
    go_region_held3 (fun w' => w'.cell? ⟨h, 0, none⟩ = some (.int .u8 r0) ∧ w'.cell? ⟨h, 1, none⟩ = some (.int .u8 r1) ∧ w'.cell? ⟨h, 2, none⟩ = some (.int .u8 r2) ∧ w'.cell? ⟨h, 3, none⟩ = some (.int .u8 r3) ∧ w'.cell? ⟨h, 4, none⟩ = some (.int .u8 r4) ∧ w'.cell? ⟨h, 5, none⟩ = some (.int .u8 r5) ∧ w'.cell? ⟨h, 6, none⟩ = some (.int .u8 r6) ∧ w'.cell? ⟨h, 7, none⟩ = some (.int .u8 r7) ∧ w'.cell? ⟨h2, 0, none⟩ = some (.int .u8 y0) ∧ w'.cell? ⟨h2, 1, none⟩ = some (.int .u8 y1) ∧ w'.cell? ⟨h2, 2, none⟩ = some (.int .u8 y2) ∧ w'.cell? ⟨h2, 3, none⟩ = some (.int .u8 y3) ∧ w'.cell? ⟨h2, 4, none⟩ = some (.int .u8 y4) ∧ w'.cell? ⟨h2, 5, none⟩ = some (.int .u8 y5) ∧ w'.cell? ⟨h2, 6, none⟩ = some (.int .u8 y6) ∧ w'.cell? ⟨h2, 7, none⟩ = some (.int .u8 y7)) (first | (with_reducible exact hS11) | (with_reducible exact hS10) | (with_reducible exact hS9) | go_keep)
      (first
        | (go_at_call 26; refine (tRoot_any _ lo hi T ls (HT9.out.later (below_draws v9 _ 1))).mono ?_; rintro e v10 ⟨rfl, hb10⟩; rw [HR.out, show dgA [r0, r1, r2, r3, r4, r5, r6, r7] = #[.int .u8 r0, .int .u8 r1, .int .u8 r2, .int .u8 r3, .int .u8 r4, .int .u8 r5, .int .u8 r6, .int .u8 r7] from rfl]; have E10 : Hid (Below v9.heap.size v9 v10) := ((below_draws v9 _ 1).trans hb10); have hS10 := cells_two HKK.out.1 HKK.out.2 E10.out; clear hb10)
        | (go_at_call 21; refine (Check_any _ [r0, r1, r2, r3, r4, r5, r6, r7] 0 [y0, y1, y2, y3, y4, y5, y6, y7] HRO.out HYO.out B7 Nr c7 qs HQO.out (HSQ9.out.later E10.out)).mono ?_; rintro e v11 ⟨rfl, hb11⟩; rw [HCK.out]; have E11 : Hid (Below v9.heap.size v9 v11) := (E10.out.trans (hb11.mono E10.out.size)); have hS11 := cells_two HKK.out.1 HKK.out.2 E11.out; clear hb11))
    have HBF := Lib.hid (HB9.out.trans (E11.out.mono HB9.out.size))
    clear heq1 hS9 hS10 hS11
    go_wp2_with fail
    go_ret
    exact ⟨rfl, HBF.out⟩
  · obtain rfl : m = 0 := by omega
    obtain ⟨B1, c1, rfl⟩ := own_form hown
    clear hb1 hls hm
    go_wp2_with fail
    go_at_call 24
    refine (new_none _ B1 0 c1 (by omega)).mono ?_
    rintro e v2 ⟨rfl, rfl⟩
    go_wp2_with fail
    go_ret
    exact ⟨rfl, HB1.out⟩
theorem law_TreeNones' (many : Int) (A : Option Addr) (n c : Nat) (vs : List Int) (bv : Int) (w : World) (_ : (Lit.int .i64 many).wf = true) (hs : Sl w w.heap.size 1 A n (vs.map (.int .u16))) (hv : ∀ z ∈ vs, (Lit.int .u16 z).wf = true) (hb : (Lit.int .u8 bv).wf = true) :
    Calls Tryd.prog 10 #[.int .i64 many, .slice A n c, .int .u8 bv] w fun e w' => e = .returned (.bool true) ∧ Below w.heap.size w w' := law_TreeNones w many A n c vs bv (u8_wf hb) (u16_wf hv) hs
end Go.Proofs.YtimcjldehememaaDoor
