/- Pots of locks: the walk. -/
import Derived.Test.YtbclfjdamklbpaaL9
namespace Go.Proofs.Ytbclfjdamklbpaa
open Go.RowKit Go.Maps

def potL (ks : List (List Int)) (k : Nat) (x : Int) : LkT := ⟨1, [3, 0, 0, 0, 0, 0, 0, 0], ks, k, x, 9⟩
theorem build_pl (ks : List (List Int)) (k : Nat) (x : Int) (A : Option Addr) (N C : Nat) (w : World) : (Instr.build 26 #[(0, .int .i64 1), (1, .agg (dl [3, 0, 0, 0, 0, 0, 0, 0]).toArray), (2, .slice A N C), (3, .int .i64 k), (4, .int .i64 x), (5, .int .i64 9)]).run Try.prog w = .ok (.agg (lkC (potL ks k x) (.slice A N C)).toArray) w := by kernel_rfl
def zLk : List Value := [.int .i64 0, .int .u8 0, .int .u8 0, .int .u8 0, .int .u8 0, .int .u8 0, .int .u8 0, .int .u8 0, .int .u8 0, .slice none 0 0, .int .i64 0, .int .i64 0, .int .i64 0]
def capV (z : Int) : Int := 1 + modI z 1000
set_option maxRecDepth 20000 in
set_option maxHeartbeats 8000000 in
theorem pots_any (w : World) (A B : Option Addr) (N M C D : Nat) (cs hs : List Int) (hc : Sl w w.heap.size 1 A N (cs.map (.int .i64))) (hsh : Sl w w.heap.size 1 B M (hs.map (.int .i64))) :
    Calls Try.prog 4 #[.slice A N C, .slice B M D] w fun e w' => e = .returned (.bool true) ∧ Below w.heap.size w w' := by
  have HC0 := Lib.hid hc; have HS0 := Lib.hid hsh; have HNL := Lib.hid hc.le; have HML := Lib.hid hsh.le; have HCL := Lib.hid hc.length
  clear hc hsh
  go_enter Try.func4, Try.ntmps4
  go_wp2_with fail
  refine (newBook_any w).mono ?_
  rintro e w2 ⟨⟨g, rfl, hbk⟩, hbn⟩
  have HBK2 := Lib.hid hbk; have HB2 := Lib.hid hbn
  clear hbk hbn
  go_wp2_with fail
  refine (ltold_any w2).mono ?_
  rintro e w3 ⟨rfl, hbn⟩
  have HP3 : Hid (P3 w w3 g [] (.slice none 0 0) (.slice none 0 0) (.slice none 0 0) [] [] []) := ⟨World.ownsRow_nil _ _ _ _, World.ownsRow_nil _ _ _ _, World.ownsRow_nil _ _ _ _, fun q hq => by simp [Value.ownBlock] at hq, HBK2.out.later hbn, below_then HB2.out hbn, fun d hd => by simp at hd⟩
  clear hbn HBK2 HB2
  have hnl := HNL.out
  go_upto_region 7 with fail
  go_cut [10] (fun i wx => i = .int .i64 0 ∧ wx = w3)
  case first =>
    go_wp2_with fail
    go_meet
    exact ⟨rfl, rfl⟩
  obtain ⟨rfl, hwx⟩ := hcut
  subst hwx
  refine ‹∀ (a : Act) (w : World), Code.wp _ _ _ a w → _› _ _ ?_
  go_cut [6, 7, 9, 10, 11] (fun a6 a7 pv iv _ wx => ∃ (n : Nat) (A6 A7 : Option Addr) (C6 C7 : Nat) (S : Int) (ks : List (List Int)) (own : List Int), a6 = .slice A6 n C6 ∧ a7 = .slice A7 n C7 ∧ pv = .int .i64 S ∧ n ≤ 8 ∧ ks.length = n ∧ own.length = n ∧ S = own.sum ∧ (∀ z ∈ own, 1 ≤ z ∧ z ≤ 1000) ∧ Hid (P3 w wx g [] a6 a7 (.slice none 0 0) ks own []))
  case first =>
    as_aux_lemma =>
    go_wp2_with fail
    go_loopw [6, 7, 9, 10, 11] (fun a6 a7 pv iv _ wr => ∃ (k : Nat) (v6 v7 : Value) (S : Int) (ks : List (List Int)) (own : List Int), k ≤ N ∧ k ≤ 8 ∧ iv = .int .i64 k ∧ v6 = a6 ∧ v7 = a7 ∧ pv = .int .i64 S ∧ Hid (ks.length = k ∧ own.length = k ∧ S = own.sum ∧ (∀ z ∈ own, 1 ≤ z ∧ z ≤ 1000)) ∧ Hid (P3 w wr g [] v6 v7 (.slice none 0 0) ks own [])) (fun _ _ _ iv _ _ => N - (intOf iv).toNat)
    case atStart => exact ⟨0, _, _, 0, [], [], Nat.zero_le _, Nat.zero_le _, rfl, rfl, rfl, rfl, ⟨rfl, rfl, rfl, fun z hz => by simp at hz⟩, HP3⟩
    case round =>
      clear HP3
      obtain ⟨k, v6, v7, S, ks, own, hk, hk8, rfl, h6, h7, rfl, HKS, HP3⟩ := hrel
      subst h6
      subst h7
      have HSB : Hid (0 ≤ S ∧ S ≤ 8000) := by
        obtain ⟨e1, e2, e3, e4⟩ := HKS.out
        have h1 := (sum_nn (l := own) (fun z hz => by have := e4 z hz; omega)).1
        have h2 := sum_le (l := own) (b := 1000) (fun z hz => (e4 z hz).2)
        exact ⟨by omega, by omega⟩
      by_cases hlt : k < N
      · have hki : (k : Int) < N := by omega
        have hk0 : (0 : Int) ≤ k := by omega
        by_cases hl8 : k < 8
        · have hk9 : (k : Int) < 8 := by omega
          obtain ⟨b, o, x, rfl, hx, _, hcell⟩ := int_at (HC0.out.later HP3.out.hb) hlt
          clear hx
          have hmr := modI_run x 1000 (by decide) (by decide)
          obtain ⟨y, hy⟩ : ∃ y, modI x 1000 = y := ⟨_, rfl⟩
          have hyr := modI_lt x (n := 1000) (by decide)
          rw [hy] at hmr hyr
          clear hy
          have hw8 : IntKind.u8.wrap (k : Int) = k := IntWalk.u8_in _ (by omega)
          have hkp := build_kp k
          have HKO : Hid (DgOk (keyP k)) := keyP_ok (by omega)
          go_wp2_with (first
            | ((with_reducible refine wpList_build rfl 23 _ rfl #[(0, .int .u8 k), (1, .int .u8 7)] ?_ _ (hkp _) ?_); focus (simp [Act.eval, Act.put]; done))
            | (with_reducible refine stop_bs 24 _ _ rfl ?_))
          refine StopD.go ?_
          rw [show dl [(k : Int), 7, 0, 0, 0, 0, 0, 0] = dl (keyP k) from rfl]
          refine wpList_bsliceG rfl 24 1 _ rfl #[(0, .agg (dl (keyP k)).toArray)] ?_ 23 (dl (keyP k)) (fun w => bs_d1 HKO.out w) ?_
          · simp [Act.eval, Act.put]
          intro q8 w8 hq8 hb8 hbn
          have HP8 := Lib.hid (HP3.out.later hbn); have HB8 := Lib.hid hb8
          clear hq8 hb8 hbn HP3 hmr hcell hkp
          go_wp2_with (at_builtin; refine stop_here ?_)
          refine StopD.go ?_
          obtain ⟨i0, z0', hi, hi0, hi1, hi2, hi3⟩ := dg_parts
          have hn1 := HKS.out.1
          refine wpList_app _ rfl (.tmp 46) (.tmp 50) 24 rfl w.heap.size 23 i0 z0' 8 8 Try.underlying24 hi hi0 hi1 hi2 hi3 (by decide) _ _ _ rfl HP8.out.k _ _ _ _ _ rfl (Sl.of_own (HB8.out.own (base := 0) (size := 8) (cap := 1) (n := 1) (Nat.zero_le _) (Nat.le_refl _) (by omega) (by rw [dl_len, HKO.out.len]) (by rw [List.take_of_length_le (by rw [dl_len, HKO.out.len]; exact Nat.le_refl _)]))) (dl_one' _) (by unfold maxLen; omega) (by omega) HP8.out.hb.size ?_
          intro v9 w9 hown hg hat
          have HP9 := Lib.hid (HP8.out.appK HKO.out hown hg)
          clear hown hg hat hi hi0 hi1 hi2 hi3 hn1 HP8 HB8
          obtain ⟨wq, hwq⟩ : ∃ wq, w9 = wq := ⟨_, rfl⟩
          subst hwq
          obtain ⟨v10, hv10⟩ : ∃ v, v9 = v := ⟨_, rfl⟩
          subst hv10
          go_wp2_with (with_reducible refine stop_bs 27 _ _ rfl ?_)
          refine StopD.go ?_
          refine wpList_bsliceG rfl 27 1 _ rfl #[(0, .int .i64 (1 + y))] ?_ 3 [.int .i64 (1 + y)] (fun w => bs_i1 (1 + y) w) ?_
          · simp [Act.eval, Act.put]
          intro q8 w8 hq8 hb8 hbn
          have HP8 := Lib.hid (HP9.out.later hbn); have HB8 := Lib.hid hb8
          clear hq8 hb8 hbn HP9
          go_wp2_with (at_builtin; refine stop_here ?_)
          obtain ⟨v11, hv11⟩ : ∃ v, v9 = v := ⟨_, rfl⟩
          subst hv11
          refine StopD.go ?_
          obtain ⟨i0, hi, hi0, hi1, hi2⟩ := info_parts Try.infoInt
          have hn1 := HKS.out.2.1
          refine wpList_app _ rfl (.tmp 52) (.tmp 54) 27 rfl w.heap.size 3 i0 (.int .i64 0) 1 8 Try.underlying27 hi hi0 hi1 hi2 rfl (by decide) _ _ _ rfl HP8.out.o _ _ _ _ _ rfl (Sl.of_own (HB8.out.own (base := 0) (size := 1) (cap := 1) (n := 1) (Nat.zero_le _) (Nat.le_refl _) (by omega) rfl rfl)) (by intro u hu; simp at hu; subst hu; rfl) (by unfold maxLen; omega) (by omega) HP8.out.hb.size ?_
          intro v9 w9 hown hg hat
          have HP10 := Lib.hid (HP8.out.appO hown hg hat)
          clear hown hg hat hi hi0 hi1 hi2 hn1 HP8 HB8
          have hsb := HSB.out
          go_wp2_with fail
          go_roundw
          case rel =>
            refine ⟨k + 1, _, _, S + (1 + y), _, _, hlt, by omega, by go_num, rfl, rfl, by go_num, ?_, HP10⟩
            obtain ⟨e1, e2, e3, e4⟩ := HKS.out
            refine ⟨by simp [e1], by simp [e2], by rw [sum_add, e3], fun z hz => ?_⟩
            rcases List.mem_append.1 hz with hz | hz
            · exact e4 z hz
            · simp at hz; omega
          case measure => simp [intOf]; omega
        · have hk9 : ¬ ((k : Int) < 8) := by omega
          obtain ⟨A6, C6, h6⟩ := own_form HP3.out.k
          obtain ⟨A7, C7, h7⟩ := own_form HP3.out.o
          have e1 := HKS.out.1; have e2 := HKS.out.2.1
          rw [e1] at h6
          rw [e2] at h7
          subst h6; subst h7
          go_wp2_with fail
          go_meet
          exact ⟨k, A6, A7, C6, C7, S, ks, own, rfl, rfl, rfl, hk8, e1, e2, HKS.out.2.2.1, HKS.out.2.2.2, HP3⟩
      · have hki : ¬ ((k : Int) < N) := by omega
        obtain ⟨A6, C6, h6⟩ := own_form HP3.out.k
        obtain ⟨A7, C7, h7⟩ := own_form HP3.out.o
        have e1 := HKS.out.1; have e2 := HKS.out.2.1
        rw [e1] at h6
        rw [e2] at h7
        subst h6; subst h7
        go_wp2_with fail
        go_meet
        exact ⟨k, A6, A7, C6, C7, S, ks, own, rfl, rfl, rfl, hk8, e1, e2, HKS.out.2.2.1, HKS.out.2.2.2, HP3⟩
  obtain ⟨n, A6, A7, C6, C7, S, ks, own, rfl, rfl, rfl, hn8, e1, e2, e3, e4, HP4⟩ := hcut
  obtain ⟨w4, hw4⟩ : ∃ w4, w4 = wc := ⟨_, rfl⟩
  subst hw4
  have HKS : Hid (ks.length = n ∧ own.length = n ∧ S = own.sum ∧ (∀ z ∈ own, 1 ≤ z ∧ z ≤ 1000)) := ⟨e1, e2, e3, e4⟩
  have HSB : Hid (0 ≤ S ∧ S ≤ 8000) := by
    have h1 := (sum_nn (l := own) (fun z hz => by have := e4 z hz; omega)).1
    have h2 := sum_le (l := own) (b := 1000) (fun z hz => (e4 z hz).2)
    exact ⟨by omega, by omega⟩
  clear HP3 e1 e2 e3 e4
  refine ‹∀ (a : Act) (w : World), Code.wp _ _ _ a w → _› _ _ ?_
  by_cases hn2 : n < 2
  · have hni : (n : Int) < 2 := by omega
    go_wp2_with fail
    go_ret
    exact ⟨rfl, HP4.out.hb⟩
  have hni : ¬ ((n : Int) < 2) := by omega
  go_upto_region 15 with fail
  go_cut [13] (fun i wx => i = .int .i64 0 ∧ wx = w4)
  case first =>
    go_wp2_with fail
    go_meet
    exact ⟨rfl, rfl⟩
  obtain ⟨rfl, hwx⟩ := hcut
  subst hwx
  refine ‹∀ (a : Act) (w : World), Code.wp _ _ _ a w → _› _ _ ?_
  go_cut [8, 12, 13, 14] (fun a8 _ _ _ wx => ∃ (A8 : Option Addr) (C8 : Nat) (pays : List Int), a8 = .slice A8 n C8 ∧ Hid (pays.length = n ∧ (∀ z ∈ pays, 0 ≤ z) ∧ pays.sum = S) ∧ Hid (P3 w wx g [] (.slice A6 n C6) (.slice A7 n C7) a8 ks own pays))
  case first =>
    as_aux_lemma =>
    go_wp2_with fail
    go_loopw [8, 12, 13, 14] (fun a8 tv iv _ wr => ∃ (k : Nat) (v8 : Value) (T : Int) (pays : List Int), k ≤ n ∧ iv = .int .i64 k ∧ v8 = a8 ∧ tv = .int .i64 T ∧ Hid (pays.length = k ∧ (∀ z ∈ pays, 0 ≤ z) ∧ 0 ≤ T ∧ pays.sum + T = S ∧ (k = n → T = 0)) ∧ Hid (P3 w wr g [] (.slice A6 n C6) (.slice A7 n C7) v8 ks own pays)) (fun _ _ iv _ _ => n - (intOf iv).toNat)
    case atStart => exact ⟨0, _, S, [], Nat.zero_le _, rfl, rfl, rfl, ⟨rfl, fun z hz => by simp at hz, HSB.out.1, by simp, by omega⟩, HP4⟩
    case round =>
      clear HP4
      obtain ⟨k, v8, T, pays, hk, rfl, h8, rfl, HPT, HP4⟩ := hrel
      subst h8
      have HTB : Hid (0 ≤ T ∧ T ≤ 8000) := by
        obtain ⟨f1, f2, f3, f4, f5⟩ := HPT.out
        have h1 := (sum_nn f2).1
        have h2 := HSB.out
        exact ⟨f3, by omega⟩
      by_cases hlt : k < n
      · have hki : (k : Int) < n := by omega
        have hk0 : (0 : Int) ≤ k := by omega
        by_cases hl1 : k + 1 < n
        · have hk1 : (k : Int) + 1 < n := by omega
          by_cases hlM : k < M
          · have hkM : (k : Int) < M := by omega
            obtain ⟨b, o, x, rfl, hx, _, hcell⟩ := int_at (HS0.out.later HP4.out.hb) hlM
            clear hx
            have htb := HTB.out
            have hmr := modI_run x (T + 1) (by omega) (by omega)
            have hyr := modI_lt x (n := T + 1) (by omega)
            obtain ⟨y, hy⟩ : ∃ y, modI x (T + 1) = y := ⟨_, rfl⟩
            rw [hy] at hmr hyr
            clear hy
            have hwu : IntKind.u64.wrap (T + 1) = T + 1 := by rw [IntKind.wrap_u64]; omega
            have hw64 : wrap64 (T + 1) = T + 1 := IntWalk.wrap64_in _ (by omega)
            have hne : (T + 1 == 0) = false := by simp; omega
            have hne2 : ¬ (T + 1 = 0) := by omega
            have HYR : Hid (0 ≤ y ∧ y ≤ T) := (⟨hyr.1, by omega⟩)
            have HYE : Hid (k + 1 = n → T - y = 0) := (fun h => absurd h (by omega))
            go_wp2_with (with_reducible refine stop_bs 27 _ _ rfl ?_)
            refine StopD.go ?_
            refine wpList_bsliceG rfl 27 1 _ rfl #[(0, .int .i64 y)] ?_ 3 [.int .i64 y] (fun w => bs_i1 y w) ?_
            · simp [Act.eval, Act.put]
            intro q8 w8 hq8 hb8 hbn
            have HP8 := Lib.hid (HP4.out.later hbn); have HB8 := Lib.hid hb8
            clear hq8 hb8 hbn HP4
            go_wp2_with (at_builtin; refine stop_here ?_)
            refine StopD.go ?_
            obtain ⟨i0, hi, hi0, hi1, hi2⟩ := info_parts Try.infoInt
            have hn1 := HPT.out.1
            refine wpList_app _ rfl (.tmp 91) (.tmp 93) 27 rfl w.heap.size 3 i0 (.int .i64 0) 1 8 Try.underlying27 hi hi0 hi1 hi2 rfl (by decide) _ _ _ rfl HP8.out.p _ _ _ _ _ rfl (Sl.of_own (HB8.out.own (base := 0) (size := 1) (cap := 1) (n := 1) (Nat.zero_le _) (Nat.le_refl _) (by omega) rfl rfl)) (by intro u hu; simp at hu; subst hu; rfl) (by unfold maxLen; omega) (by omega) HP8.out.hb.size ?_
            intro v9 w9 hown hg hat
            have HP10 := Lib.hid (HP8.out.appP hown hg hat)
            clear hown hg hat hi hi0 hi1 hi2 hn1 HP8 HB8
            have htb := HTB.out; have hyr := HYR.out
            go_wp2_with fail
            go_roundw
            case rel =>
              refine ⟨k + 1, _, T - y, pays ++ [y], hlt, by go_num, rfl, by go_num, ?_, HP10⟩
              obtain ⟨f1, f2, f3, f4, f5⟩ := HPT.out
              refine ⟨by simp [f1], fun z hz => ?_, by omega, by rw [sum_add]; omega, HYE.out⟩
              rcases List.mem_append.1 hz with hz | hz
              · exact f2 z hz
              · simp at hz; omega
            case measure => simp [intOf]; omega
          · have hkM : ¬ ((k : Int) < M) := by omega
            have HYR : Hid (0 ≤ T ∧ T ≤ T) := (⟨HTB.out.1, Int.le_refl _⟩)
            have HYE : Hid (k + 1 = n → T - T = 0) := (fun _ => by omega)
            go_wp2_with (with_reducible refine stop_bs 27 _ _ rfl ?_)
            refine StopD.go ?_
            refine wpList_bsliceG rfl 27 1 _ rfl #[(0, .int .i64 T)] ?_ 3 [.int .i64 T] (fun w => bs_i1 T w) ?_
            · simp [Act.eval, Act.put]
            intro q8 w8 hq8 hb8 hbn
            have HP8 := Lib.hid (HP4.out.later hbn); have HB8 := Lib.hid hb8
            clear hq8 hb8 hbn HP4
            go_wp2_with (at_builtin; refine stop_here ?_)
            refine StopD.go ?_
            obtain ⟨i0, hi, hi0, hi1, hi2⟩ := info_parts Try.infoInt
            have hn1 := HPT.out.1
            refine wpList_app _ rfl (.tmp 91) (.tmp 93) 27 rfl w.heap.size 3 i0 (.int .i64 0) 1 8 Try.underlying27 hi hi0 hi1 hi2 rfl (by decide) _ _ _ rfl HP8.out.p _ _ _ _ _ rfl (Sl.of_own (HB8.out.own (base := 0) (size := 1) (cap := 1) (n := 1) (Nat.zero_le _) (Nat.le_refl _) (by omega) rfl rfl)) (by intro u hu; simp at hu; subst hu; rfl) (by unfold maxLen; omega) (by omega) HP8.out.hb.size ?_
            intro v9 w9 hown hg hat
            have HP10 := Lib.hid (HP8.out.appP hown hg hat)
            clear hown hg hat hi hi0 hi1 hi2 hn1 HP8 HB8
            have htb := HTB.out; have hyr := HYR.out
            go_wp2_with fail
            go_roundw
            case rel =>
              refine ⟨k + 1, _, T - T, pays ++ [T], hlt, by go_num, rfl, by go_num, ?_, HP10⟩
              obtain ⟨f1, f2, f3, f4, f5⟩ := HPT.out
              refine ⟨by simp [f1], fun z hz => ?_, by omega, by rw [sum_add]; omega, HYE.out⟩
              rcases List.mem_append.1 hz with hz | hz
              · exact f2 z hz
              · simp at hz; omega
            case measure => simp [intOf]; omega
        · have hk1 : ¬ ((k : Int) + 1 < n) := by omega
          have HYR : Hid (0 ≤ T ∧ T ≤ T) := (⟨HTB.out.1, Int.le_refl _⟩)
          have HYE : Hid (k + 1 = n → T - T = 0) := (fun _ => by omega)
          go_wp2_with (with_reducible refine stop_bs 27 _ _ rfl ?_)
          refine StopD.go ?_
          refine wpList_bsliceG rfl 27 1 _ rfl #[(0, .int .i64 T)] ?_ 3 [.int .i64 T] (fun w => bs_i1 T w) ?_
          · simp [Act.eval, Act.put]
          intro q8 w8 hq8 hb8 hbn
          have HP8 := Lib.hid (HP4.out.later hbn); have HB8 := Lib.hid hb8
          clear hq8 hb8 hbn HP4
          go_wp2_with (at_builtin; refine stop_here ?_)
          refine StopD.go ?_
          obtain ⟨i0, hi, hi0, hi1, hi2⟩ := info_parts Try.infoInt
          have hn1 := HPT.out.1
          refine wpList_app _ rfl (.tmp 91) (.tmp 93) 27 rfl w.heap.size 3 i0 (.int .i64 0) 1 8 Try.underlying27 hi hi0 hi1 hi2 rfl (by decide) _ _ _ rfl HP8.out.p _ _ _ _ _ rfl (Sl.of_own (HB8.out.own (base := 0) (size := 1) (cap := 1) (n := 1) (Nat.zero_le _) (Nat.le_refl _) (by omega) rfl rfl)) (by intro u hu; simp at hu; subst hu; rfl) (by unfold maxLen; omega) (by omega) HP8.out.hb.size ?_
          intro v9 w9 hown hg hat
          have HP10 := Lib.hid (HP8.out.appP hown hg hat)
          clear hown hg hat hi hi0 hi1 hi2 hn1 HP8 HB8
          have htb := HTB.out; have hyr := HYR.out
          go_wp2_with fail
          go_roundw
          case rel =>
            refine ⟨k + 1, _, T - T, pays ++ [T], hlt, by go_num, rfl, by go_num, ?_, HP10⟩
            obtain ⟨f1, f2, f3, f4, f5⟩ := HPT.out
            refine ⟨by simp [f1], fun z hz => ?_, by omega, by rw [sum_add]; omega, HYE.out⟩
            rcases List.mem_append.1 hz with hz | hz
            · exact f2 z hz
            · simp at hz; omega
          case measure => simp [intOf]; omega
      · have hki : ¬ ((k : Int) < n) := by omega
        obtain rfl : n = k := by omega
        have HPF : Hid (pays.length = n ∧ (∀ z ∈ pays, 0 ≤ z) ∧ pays.sum = S) := by
          obtain ⟨f1, f2, f3, f4, f5⟩ := HPT.out
          have := f5 rfl
          exact ⟨f1, f2, by omega⟩
        obtain ⟨A8, C8, h8⟩ := own_form HP4.out.p
        rw [HPF.out.1] at h8
        subst h8
        go_wp2_with fail
        go_meet
        exact ⟨A8, C8, pays, rfl, HPF, HP4⟩
  obtain ⟨A8, C8, pays, rfl, HPT, HP5⟩ := hcut
  obtain ⟨w5, hw5⟩ : ∃ w4, w4 = wc := ⟨_, rfl⟩
  subst hw5
  clear HP4
  refine ‹∀ (a : Act) (w : World), Code.wp _ _ _ a w → _› _ _ ?_
  have HPM : Hid (∀ z ∈ pays, 0 ≤ z ∧ z ≤ 8000) := fun z hz => by
    obtain ⟨f1, f2, f3⟩ := HPT.out
    have := (sum_nn f2).2 z hz
    have := HSB.out
    exact ⟨f2 z hz, by omega⟩
  have HNB : Hid (2 ≤ n ∧ n ≤ 8) := ⟨by omega, hn8⟩
  go_wp2_with fail
  go_loopw [15, 16, 17, 18, 19, 20] (fun ov mv iv _ _ _ wr => ∃ (k : Nat) (O Mo : Int) (es : List Ent), k ≤ n ∧ iv = .int .i64 k ∧ ov = .int .i64 O ∧ mv = .int .i64 Mo ∧ Hid (O - Mo = (own.take k).sum - (pays.take k).sum ∧ 0 ≤ O ∧ O ≤ 1000 * k ∧ 0 ≤ Mo ∧ Mo ≤ 8000 * k ∧ es.length ≤ 8 * k) ∧ Hid (P3 w wr g es (.slice A6 n C6) (.slice A7 n C7) (.slice A8 n C8) ks own pays)) (fun _ _ iv _ _ _ _ => n - (intOf iv).toNat)
  case atStart => exact ⟨0, 0, 0, [], Nat.zero_le _, rfl, rfl, rfl, ⟨by simp, by omega, by omega, by omega, by omega, by simp⟩, HP5⟩
  case round =>
    clear HP5
    obtain ⟨k, O, Mo, es, hk, rfl, rfl, rfl, HOM, HP5⟩ := hrel
    by_cases hlt : k < n
    · have hki : (k : Int) < n := by omega
      have hk0 : (0 : Int) ≤ k := by omega
      have HRO : Hid (∀ w' es', P3 w w' g es' (.slice A6 n C6) (.slice A7 n C7) (.slice A8 n C8) ks own pays → Sl w' w'.heap.size 1 A7 n (own.map (.int .i64)) ∧ Sl w' w'.heap.size 1 A8 n (pays.map (.int .i64)) ∧ Rw w' ks A6 n C6 pays A8 n C8) := fun w' es' h => by
        have h1 := h.o; have h2 := h.p; have h3 := h.k
        rw [HKS.out.2.1] at h1
        rw [HPT.out.1] at h2
        rw [HKS.out.1] at h3
        exact ⟨Sl.of_own h1, Sl.of_own h2, own_base h3 (Nat.zero_le _), own_base h2 (Nat.zero_le _)⟩
      obtain ⟨b, o, x, hA7, hx, _, hcx⟩ := int_at (HRO.out _ _ HP5.out).1 hlt
      obtain ⟨b', o', z, hA8, hz, _, _⟩ := int_at (HRO.out _ _ HP5.out).2.1 hlt
      subst hA7; subst hA8
      have hxr := HKS.out.2.2.2 x (List.mem_of_getElem? hx)
      have hzr := HPM.out z (List.mem_of_getElem? hz)
      have HCL : Hid (∀ w' es', P3 w w' g es' (.slice A6 n C6) (.slice (some ⟨b, o, none⟩) n C7) (.slice (some ⟨b', o', none⟩) n C8) ks own pays → w'.cell? ⟨b, o + k, none⟩ = some (.int .i64 x) ∧ w'.cell? ⟨b', o' + k, none⟩ = some (.int .i64 z)) := fun w' es' h => by
        obtain ⟨b1, o1, x1, e1, hx1, _, c1⟩ := int_at (HRO.out _ _ h).1 hlt
        obtain ⟨b2, o2, x2, e2, hx2, _, c2⟩ := int_at (HRO.out _ _ h).2.1 hlt
        injection e1 with e1; injection e1 with e1 e1'; subst e1; subst e1'
        injection e2 with e2; injection e2 with e2 e2'; subst e2; subst e2'
        rw [hx] at hx1; rw [hz] at hx2
        injection hx1 with hx1; injection hx2 with hx2
        subst hx1; subst hx2
        exact ⟨c1, c2⟩
      have HST : Hid ((own.take (k + 1)).sum = (own.take k).sum + x ∧ (pays.take (k + 1)).sum = (pays.take k).sum + z) := ⟨by rw [take_snoc hx, sum_add], by rw [take_snoc hz, sum_add]⟩
      have HZK : Hid (pays.getD k 0 = z) := by show _ = _; rw [List.getD_eq_getElem?_getD, hz]; rfl
      clear hx hz
      have h3 := build_dg 3
      have hpl := build_pl ks k x A6 n C6
      go_wp2_with (first
        | ((with_reducible refine wpList_build rfl 23 _ rfl #[(0, .int .u8 3)] ?_ _ (h3 _) ?_); focus (simp [Act.eval, Act.put]; done))
        | ((with_reducible refine wpList_build rfl 26 _ rfl #[(0, .int .i64 1), (1, .agg (dl [3, 0, 0, 0, 0, 0, 0, 0]).toArray), (2, .slice A6 n C6), (3, .int .i64 k), (4, .int .i64 x), (5, .int .i64 9)] ?_ _ (hpl _) ?_); focus (simp [Act.eval, Act.put]; done))
        | (with_reducible refine stop_store 26 _ _ rfl ?_))
      clear h3 hpl hcx
      refine StopD.go ?_
      have HLH : Hid (DgOk (potL ks k x).h) := ⟨rfl, fun b hb => by simp [potL] at hb; omega⟩
      obtain ⟨lc, hlc⟩ : ∃ l, lkC (potL ks k x) (.slice A6 n C6) = l := ⟨_, rfl⟩
      have HLC := Lib.hid hlc
      have HSL : Hid ((Try.prog.info? 26).map (·.size) = some lc.length) := by show _ = _; rw [← hlc]; exact lk_sz HLH.out _
      have HL1 : Hid (∀ x ∈ lc, x.oneCell' = true) := by rw [← hlc]; exact lk_one _ _ _ _
      have HLN : Hid (lc.length = 13) := by show _ = _; rw [← hlc]; exact lkC_len HLH.out _
      rw [hlc]
      clear hlc
      obtain ⟨gl, hgl⟩ : ∃ q, wr.heap.size = q := ⟨_, rfl⟩
      obtain ⟨w6, hw6⟩ : ∃ w', wr.alloc (.cells zLk.toArray 26) = w' := ⟨_, rfl⟩
      have hbn : Below wr.heap.size wr w6 := hw6 ▸ below_new wr _
      have kt : Bk w6 gl 26 ([] ++ (zLk ++ [])) := by rw [← hw6]; exact Bk.at_ wr _ _ hgl (by simp)
      rw [hgl, show wr.alloc (.cells #[.int .i64 0, .int .u8 0, .int .u8 0, .int .u8 0, .int .u8 0, .int .u8 0, .int .u8 0, .int .u8 0, .int .u8 0, .slice none 0 0, .int .i64 0, .int .i64 0, .int .i64 0] 26) = w6 from hw6]
      refine wpList_store_part rfl 26 _ _ rfl gl 0 (.agg lc.toArray) lc rfl rfl rfl 26 [] zLk [] kt rfl (by rw [HLN.out]; rfl) HSL.out HL1.out ?_
      intro w7 hp
      have hbn : Below wr.heap.size wr w7 := hbn.grown hp.only hbn.size (fun q' hq' => by injection hq' with hq'; omega)
      have HP7 := Lib.hid (HP5.out.later hbn)
      have HL7 : Hid (Bk w7 gl 26 lc) := by show Bk _ _ _ _; have := hp.bk; simpa using this
      clear hp hbn kt hgl hw6 HP5
      have hel : es.length + n ≤ 65536 := by have := HOM.out.2.2.2.2.2; have := HNB.out; omega
      have HEL := Lib.hid hel
      have HPI : Hid (I64Ok pays) := fun z hz => by have := HPM.out z hz; omega
      obtain ⟨q, hq⟩ : ∃ q, max 0 (x - z) = q := ⟨_, rfl⟩
      have hq0 : 0 ≤ q := by omega
      have hqx : q ≤ x := by omega
      clear hel
      go_wp2_with fail
      refine wp_region_held_drew (S := fun w' => Bk w' gl 26 lc) (by kernel_rfl) (Bk.drew HL7.out) (fun hHeld => ?_)
      have hbd : Below w7.heap.size w7 w7.drew := below_draws w7 w7.heap.size 1
      obtain ⟨wa, hwa⟩ : ∃ wa, w7.drew = wa := ⟨_, rfl⟩
      rw [hwa] at hbd hHeld ⊢
      have HPa := Lib.hid (HP7.out.later hbd); have HLa := Lib.hid (HL7.out.later hbd)
      clear hwa hbd HP7 HL7
      refine wpAnyH_take (i := 0) (v := .agg (List.toArray (lc))) rfl (by kernel_rfl) (by kernel_rfl) (by kernel_rfl) (fun _ _ _ h => h) (yieldsIf_load_mid (by rfl) _ _ rfl _ _ rfl (lc) _ (fun w hSw => (Bk.range (pre := []) (post := []) (by simpa using hSw) rfl)) Try.underlying26 rfl (HSL.out)) (by assumption) ?_
      try simp only [Act.put, List.setIfInBounds_toArray, List.set_cons_zero, List.set_cons_succ, List.getElem_toArray, List.getElem_cons_zero, List.getElem_cons_succ]
      refine wpAnyH_take (i := 1) (v := ?_) rfl (by kernel_rfl) (by kernel_rfl) (by kernel_rfl) (fun _ _ _ h => h) (Or.inl ⟨by rfl, ?_⟩) (by assumption) ?_
      rotate_left
      · intro w hSw
        (try dsimp only at hSw)
        go_simp
        try with_reducible rfl
      try simp only [Act.put, List.setIfInBounds_toArray, List.set_cons_zero, List.set_cons_succ, List.getElem_toArray, List.getElem_cons_zero, List.getElem_cons_succ]
      refine wpAnyH_take (i := 3) (v := ?_) rfl (by kernel_rfl) (by kernel_rfl) (by kernel_rfl) (fun _ _ _ h => h) (Or.inl ⟨by rfl, ?_⟩) (by assumption) ?_
      rotate_left
      · intro w hSw
        (try dsimp only at hSw)
        go_simp
        try with_reducible rfl
      try simp only [Act.put, List.setIfInBounds_toArray, List.set_cons_zero, List.set_cons_succ, List.getElem_toArray, List.getElem_cons_zero, List.getElem_cons_succ]
      refine wpAnyH_take (i := 4) (v := .agg (List.toArray (lc))) rfl (by kernel_rfl) (by kernel_rfl) (by kernel_rfl) (fun _ _ _ h => h) (yieldsIf_load_mid (by rfl) _ _ rfl _ _ rfl (lc) _ (fun w hSw => (Bk.range (pre := []) (post := []) (by simpa using hSw) rfl)) Try.underlying26 rfl (HSL.out)) (by assumption) ?_
      try simp only [Act.put, List.setIfInBounds_toArray, List.set_cons_zero, List.set_cons_succ, List.getElem_toArray, List.getElem_cons_zero, List.getElem_cons_succ]
      refine wpAnyH_take (i := 5) (v := ?_) rfl (by kernel_rfl) (by kernel_rfl) (by kernel_rfl) (fun _ _ _ h => h) (Or.inl ⟨by rfl, ?_⟩) (by assumption) ?_
      rotate_left
      · intro w hSw
        (try dsimp only at hSw)
        go_simp
        try with_reducible rfl
      try simp only [Act.put, List.setIfInBounds_toArray, List.set_cons_zero, List.set_cons_succ, List.getElem_toArray, List.getElem_cons_zero, List.getElem_cons_succ]
      refine wpAnyH_take (i := 6) (v := ?_) rfl (by kernel_rfl) (by kernel_rfl) (by kernel_rfl) (fun _ _ _ h => h) (Or.inl ⟨by rfl, ?_⟩) (by assumption) ?_
      rotate_left
      · intro w hSw
        (try dsimp only at hSw)
        go_simp
        try with_reducible rfl
      try simp only [Act.put, List.setIfInBounds_toArray, List.set_cons_zero, List.set_cons_succ, List.getElem_toArray, List.getElem_cons_zero, List.getElem_cons_succ]
      refine wpAnyH_take (i := 2) (v := ?_) rfl (by kernel_rfl) (by kernel_rfl) (by kernel_rfl) (fun _ _ _ h => h) (Or.inl ⟨by rfl, ?_⟩) (by assumption) ?_
      rotate_left
      · intro w hSw
        (try dsimp only at hSw)
        go_simp
        try with_reducible rfl
      try simp only [Act.put, List.setIfInBounds_toArray, List.set_cons_zero, List.set_cons_succ, List.getElem_toArray, List.getElem_cons_zero, List.getElem_cons_succ]
      refine wpAnyH_take (i := 7) (v := ?_) rfl (by kernel_rfl) (by kernel_rfl) (by kernel_rfl) (fun _ _ _ h => h) (Or.inl ⟨by rfl, ?_⟩) (by assumption) ?_
      rotate_left
      · intro w hSw
        (try dsimp only at hSw)
        go_simp
        try with_reducible rfl
      try simp only [Act.put, List.setIfInBounds_toArray, List.set_cons_zero, List.set_cons_succ, List.getElem_toArray, List.getElem_cons_zero, List.getElem_cons_succ]
      have hoc := outcome_any wa w.heap.size g es HPa.out.bk (potL ks k x) HLH.out HPa.out.ko A6 n C6 (by have := HNB.out; omega) HEL.out pays HPI.out (some ⟨b', o', none⟩) n C8 (by have := HNB.out; omega) (HRO.out _ _ HPa.out).2.2 HPa.out.hb.size n
      rw [HLC.out] at hoc
      have HOC := Lib.hid hoc
      clear hoc
      refine wpAnyH_ready (rs := [8]) (by kernel_rfl) (by simp) ?_
      refine AllReadyH.cons rfl (fun K hK => ?_) AllReadyH.nil
      go_simp
      (go_at_call 14; refine HOC.out.mono ?_; rintro e wb ⟨⟨E, F, ps, rfl, h1, h2, h3⟩, hbk, hb, hk, hrw⟩; have HPb := Lib.hid (HPa.out.sign hk hb hbk); have HLb := Lib.hid (HLa.out.keeps hk (by decide) (by decide)); have HAL : Hid (allB (sgO es (msgO (potL ks k x).h pays) n ks n).2 (msgO (potL ks k x).h pays) ks ps [] = true) := (by show _ = _; have h4 := HKS.out.1; have h5 := sgO_all (es := es) (m := msgO (potL ks k x).h pays) (many := n) (ks := ks) (ps := ps) (by rw [h4]; have := HNB.out; omega) (by rw [h4]; exact h3); rw [h4] at h5; rw [h5]; simp); have HPR := Lib.hid (out_pr h1 h2 h3 HEL.out hrw.z (fun z hz => by have := HPM.out z hz; omega) (by have := HNB.out; omega)); have HLK := Lib.hid (Rw.lk (L := potL ks k x) hrw HPa.out.ko HLH.out (by have := HNB.out; omega)); clear h1 h2 h3 hbk hb hk hrw HPa HLa HOC)
      refine hK.out _ _ (HLb.out) (fun hHeld => ?_)
      clear hK K
      try simp only [Act.put, List.setIfInBounds_toArray, List.set_cons_zero, List.set_cons_succ, List.getElem_toArray, List.getElem_cons_zero, List.getElem_cons_succ]
      obtain ⟨es2, hes2⟩ : ∃ e, (sgO es (msgO (potL ks k x).h pays) n ks n).2 = e := ⟨_, rfl⟩
      have HE2 : Hid (es2.length ≤ es.length + n) := by show es2.length ≤ _; rw [← hes2]; exact (sgO_len _ _ _ _ _).2
      rw [show (sgO es (msgO (potL ks k x).h pays) n (potL ks k x).ks n).2 = es2 from hes2] at HPb
      rw [hes2] at HAL
      clear hes2
      have hop := open_any wb w.heap.size g es2 HPb.out.bk (by have := HE2.out; have := HEL.out; omega) (potL ks k x) A6 n C6 HLK.out zeroD zero_ok (some ⟨b', o', none⟩) E n C8 n F pays ps HPR.out (fun _ => rfl) 9
      have hov : openO es2 (potL ks k x) n 9 zeroD pays ps = (q, 0) := by
        have hc : checkL 1 (k : Int) x 9 n = 0 := by
          have := HNB.out
          unfold checkL
          rw [if_neg (by omega), if_neg (by omega), if_neg (by omega), if_neg (by omega), if_neg (by omega)]
        have hl := HPT.out.1
        rw [openO]
        show (if checkL 1 (k : Int) x 9 n = 0 then (if (9 : Int) < 9 then _ else if (1 : Int) = 0 then _ else outO es2 (potL ks k x) n pays ps) else _) = _
        rw [if_pos hc, if_neg (by decide), if_neg (by decide), outO, if_neg (by rw [hl]; simp)]
        show (if allB es2 (msgO (potL ks k x).h pays) ks ps [] = true then (max 0 (x - pays.getD (k : Int).toNat 0), 0) else _) = _
        rw [HAL.out, if_pos rfl, Int.toNat_natCast, HZK.out, hq]
      rw [HLC.out, hov] at hop
      have HOP := Lib.hid hop
      clear hop hov
      refine wpAnyH_ready (rs := [9]) (by kernel_rfl) (by simp) ?_
      refine AllReadyH.cons rfl (fun K hK => ?_) AllReadyH.nil
      go_simp
      (go_at_call 13; refine HOP.out.mono ?_; rintro e wd ⟨rfl, hbn⟩; have HPd := Lib.hid (HPb.out.later hbn); have HLd := Lib.hid (HLb.out.later hbn); clear hbn HOP HPb HLb HPR HLK)
      refine hK.out _ _ (HLd.out) (fun hHeld => ?_)
      clear hK K
      try simp only [Act.put, List.setIfInBounds_toArray, List.set_cons_zero, List.set_cons_succ, List.getElem_toArray, List.getElem_cons_zero, List.getElem_cons_succ]
      refine wpAnyH_take (i := 10) (v := ?_) rfl (by kernel_rfl) (by kernel_rfl) (by kernel_rfl) (fun _ _ _ h => h) (Or.inl ⟨by rfl, ?_⟩) (by assumption) ?_
      rotate_left
      · intro w hSw
        (try dsimp only at hSw)
        go_simp
        try with_reducible rfl
      try simp only [Act.put, List.setIfInBounds_toArray, List.set_cons_zero, List.set_cons_succ, List.getElem_toArray, List.getElem_cons_zero, List.getElem_cons_succ]
      refine wpAnyH_take (i := 11) (v := ?_) rfl (by kernel_rfl) (by kernel_rfl) (by kernel_rfl) (fun _ _ _ h => h) (Or.inl ⟨by rfl, ?_⟩) (by assumption) ?_
      rotate_left
      · intro w hSw
        (try dsimp only at hSw)
        go_simp
        try with_reducible rfl
      try simp only [Act.put, List.setIfInBounds_toArray, List.set_cons_zero, List.set_cons_succ, List.getElem_toArray, List.getElem_cons_zero, List.getElem_cons_succ]
      refine wpAnyH_take (i := 12) (v := ?_) rfl (by kernel_rfl) (by kernel_rfl) (by kernel_rfl) (fun _ _ _ h => h) (Or.inl ⟨by rfl, ?_⟩) (by assumption) ?_
      rotate_left
      · intro w hSw
        (try dsimp only at hSw)
        go_simp
        try with_reducible rfl
      try simp only [Act.put, List.setIfInBounds_toArray, List.set_cons_zero, List.set_cons_succ, List.getElem_toArray, List.getElem_cons_zero, List.getElem_cons_succ]
      refine wpAnyH_take (i := 13) (v := ?_) rfl (by kernel_rfl) (by kernel_rfl) (by kernel_rfl) (fun _ _ _ h => h) (Or.inl ⟨by rfl, ?_⟩) (by assumption) ?_
      rotate_left
      · intro w hSw
        (try dsimp only at hSw)
        go_simp
        try with_reducible rfl
      try simp only [Act.put, List.setIfInBounds_toArray, List.set_cons_zero, List.set_cons_succ, List.getElem_toArray, List.getElem_cons_zero, List.getElem_cons_succ]
      refine wpAnyH_take (i := 14) (v := ?_) rfl (by kernel_rfl) (by kernel_rfl) (by kernel_rfl) (fun _ _ _ h => h) (Or.inl ⟨by rfl, ?_⟩) (by assumption) ?_
      rotate_left
      · intro w hSw
        (try dsimp only at hSw)
        go_simp
        try with_reducible rfl
      try simp only [Act.put, List.setIfInBounds_toArray, List.set_cons_zero, List.set_cons_succ, List.getElem_toArray, List.getElem_cons_zero, List.getElem_cons_succ]
      refine wpAnyH_done (by kernel_rfl) ?_ _
      clear hHeld
      have hcc := HCL.out _ _ HPd.out
      have hcx := hcc.1
      have hcz := hcc.2
      have g1 : decide (q < 0) = false := by simp; omega
      have g2 : decide (x < q) = false := by simp; omega
      go_upto_region 30 with fail
      clear hcc hcx hcz g1 g2
      have HQQ : Hid (q = max 0 (x - z)) := hq.symm
      have hom := HOM.out
      have hnb := HNB.out
      have hwo : IntKind.i64.wrap (O + q) = O + q := by rw [IntWalk.i64_in]; omega
      have hwd : IntKind.i64.wrap (z - x) = z - x := by rw [IntWalk.i64_in]; omega
      refine wp_region_held_drew (S := fun w' => w'.cell? ⟨b, o + k, none⟩ = some (.int .i64 x) ∧ w'.cell? ⟨b', o' + k, none⟩ = some (.int .i64 z)) (by kernel_rfl) (HCL.out _ _ (HPd.out.later (below_draws wd _ 1))) (fun hHeld => ?_)
      have HPE := Lib.hid (HPd.out.later (below_draws wd _ 1))
      have HEB : Hid (es2.length ≤ 8 * (k + 1)) := by show es2.length ≤ _; have := HE2.out; have := hom.2.2.2.2.2; omega
      by_cases hzx : z - x < 0
      · have m1 : z - x < 0 := hzx
        have hwm : IntKind.i64.wrap Mo = Mo := by rw [IntWalk.i64_in]; omega
        have hmx : max (z - x) 0 = 0 := by omega
        refine wpAnyH_take (i := 0) (v := ?_) rfl (by kernel_rfl) (by kernel_rfl) (by kernel_rfl) (fun _ _ _ h => h) (Or.inl ⟨by rfl, ?_⟩) (by assumption) ?_
        rotate_left
        · intro w hSw
          (try dsimp only at hSw)
          go_simp
          try with_reducible rfl
        try simp only [Act.put, List.setIfInBounds_toArray, List.set_cons_zero, List.set_cons_succ, List.getElem_toArray, List.getElem_cons_zero, List.getElem_cons_succ]
        refine wpAnyH_take (i := 1) (v := ?_) rfl (by kernel_rfl) (by kernel_rfl) (by kernel_rfl) (fun _ _ _ h => h) (Or.inl ⟨by rfl, ?_⟩) (by assumption) ?_
        rotate_left
        · intro w hSw
          (try dsimp only at hSw)
          go_simp
          try with_reducible rfl
        try simp only [Act.put, List.setIfInBounds_toArray, List.set_cons_zero, List.set_cons_succ, List.getElem_toArray, List.getElem_cons_zero, List.getElem_cons_succ]
        refine wpAnyH_take (i := 3) (v := ?_) rfl (by kernel_rfl) (by kernel_rfl) (by kernel_rfl) (fun _ _ _ h => h) (Or.inl ⟨by rfl, ?_⟩) (by assumption) ?_
        rotate_left
        · intro w hSw
          (try dsimp only at hSw)
          go_simp
          try with_reducible rfl
        try simp only [Act.put, List.setIfInBounds_toArray, List.set_cons_zero, List.set_cons_succ, List.getElem_toArray, List.getElem_cons_zero, List.getElem_cons_succ]
        refine wpAnyH_take (i := 4) (v := ?_) rfl (by kernel_rfl) (by kernel_rfl) (by kernel_rfl) (fun _ _ _ h => h) (Or.inl ⟨by rfl, ?_⟩) (by assumption) ?_
        rotate_left
        · intro w hSw
          (try dsimp only at hSw)
          go_simp
          try with_reducible rfl
        try simp only [Act.put, List.setIfInBounds_toArray, List.set_cons_zero, List.set_cons_succ, List.getElem_toArray, List.getElem_cons_zero, List.getElem_cons_succ]
        refine wpAnyH_take (i := 5) (v := ?_) rfl (by kernel_rfl) (by kernel_rfl) (by kernel_rfl) (fun _ _ _ h => h) (Or.inl ⟨by rfl, ?_⟩) (by assumption) ?_
        rotate_left
        · intro w hSw
          (try dsimp only at hSw)
          go_simp
          try with_reducible rfl
        try simp only [Act.put, List.setIfInBounds_toArray, List.set_cons_zero, List.set_cons_succ, List.getElem_toArray, List.getElem_cons_zero, List.getElem_cons_succ]
        refine wpAnyH_take (i := 8) (v := ?_) rfl (by kernel_rfl) (by kernel_rfl) (by kernel_rfl) (fun _ _ _ h => h) (Or.inl ⟨by rfl, ?_⟩) (by assumption) ?_
        rotate_left
        · intro w hSw
          (try dsimp only at hSw)
          go_simp
          try with_reducible rfl
        try simp only [Act.put, List.setIfInBounds_toArray, List.set_cons_zero, List.set_cons_succ, List.getElem_toArray, List.getElem_cons_zero, List.getElem_cons_succ]
        refine wpAnyH_take (i := 9) (v := ?_) rfl (by kernel_rfl) (by kernel_rfl) (by kernel_rfl) (fun _ _ _ h => h) (Or.inl ⟨by rfl, ?_⟩) (by assumption) ?_
        rotate_left
        · intro w hSw
          (try dsimp only at hSw)
          go_simp
          try with_reducible rfl
        try simp only [Act.put, List.setIfInBounds_toArray, List.set_cons_zero, List.set_cons_succ, List.getElem_toArray, List.getElem_cons_zero, List.getElem_cons_succ]
        refine wpAnyH_take (i := 2) (v := ?_) rfl (by kernel_rfl) (by kernel_rfl) (by kernel_rfl) (fun _ _ _ h => h) (Or.inl ⟨by rfl, ?_⟩) (by assumption) ?_
        rotate_left
        · intro w hSw
          (try dsimp only at hSw)
          go_simp
          try with_reducible rfl
        try simp only [Act.put, List.setIfInBounds_toArray, List.set_cons_zero, List.set_cons_succ, List.getElem_toArray, List.getElem_cons_zero, List.getElem_cons_succ]
        refine wpAnyH_take (i := 6) (v := ?_) rfl (by kernel_rfl) (by kernel_rfl) (by kernel_rfl) (fun _ _ _ h => h) (Or.inl ⟨by rfl, ?_⟩) (by assumption) ?_
        rotate_left
        · intro w hSw
          (try dsimp only at hSw)
          go_simp
          try with_reducible rfl
        try simp only [Act.put, List.setIfInBounds_toArray, List.set_cons_zero, List.set_cons_succ, List.getElem_toArray, List.getElem_cons_zero, List.getElem_cons_succ]
        refine wpAnyH_take (i := 10) (v := ?_) rfl (by kernel_rfl) (by kernel_rfl) (by kernel_rfl) (fun _ _ _ h => h) (Or.inl ⟨by rfl, ?_⟩) (by assumption) ?_
        rotate_left
        · intro w hSw
          (try dsimp only at hSw)
          go_simp
          try with_reducible rfl
        try simp only [Act.put, List.setIfInBounds_toArray, List.set_cons_zero, List.set_cons_succ, List.getElem_toArray, List.getElem_cons_zero, List.getElem_cons_succ]
        refine wpAnyH_take (i := 7) (v := ?_) rfl (by kernel_rfl) (by kernel_rfl) (by kernel_rfl) (fun _ _ _ h => h) (Or.inl ⟨by rfl, ?_⟩) (by assumption) ?_
        rotate_left
        · intro w hSw
          have hcell := hSw.2
          clear hSw
          go_simp
          try with_reducible rfl
        try simp only [Act.put, List.setIfInBounds_toArray, List.set_cons_zero, List.set_cons_succ, List.getElem_toArray, List.getElem_cons_zero, List.getElem_cons_succ]
        refine wpAnyH_take (i := 11) (v := ?_) rfl (by kernel_rfl) (by kernel_rfl) (by kernel_rfl) (fun _ _ _ h => h) (Or.inl ⟨by rfl, ?_⟩) (by assumption) ?_
        rotate_left
        · intro w hSw
          have hcell := hSw.1
          clear hSw
          go_simp
          try with_reducible rfl
        try simp only [Act.put, List.setIfInBounds_toArray, List.set_cons_zero, List.set_cons_succ, List.getElem_toArray, List.getElem_cons_zero, List.getElem_cons_succ]
        refine wpAnyH_take (i := 12) (v := ?_) rfl (by kernel_rfl) (by kernel_rfl) (by kernel_rfl) (fun _ _ _ h => h) (Or.inl ⟨by rfl, ?_⟩) (by assumption) ?_
        rotate_left
        · intro w hSw
          (try dsimp only at hSw)
          go_simp
          try with_reducible rfl
        try simp only [Act.put, List.setIfInBounds_toArray, List.set_cons_zero, List.set_cons_succ, List.getElem_toArray, List.getElem_cons_zero, List.getElem_cons_succ]
        refine wpAnyH_take (i := 13) (v := ?_) rfl (by kernel_rfl) (by kernel_rfl) (by kernel_rfl) (fun _ _ _ h => h) (Or.inl ⟨by rfl, ?_⟩) (by assumption) ?_
        rotate_left
        · intro w hSw
          (try dsimp only at hSw)
          go_simp
          try with_reducible rfl
        try simp only [Act.put, List.setIfInBounds_toArray, List.set_cons_zero, List.set_cons_succ, List.getElem_toArray, List.getElem_cons_zero, List.getElem_cons_succ]
        refine wpAnyH_take (i := 14) (v := ?_) rfl (by kernel_rfl) (by kernel_rfl) (by kernel_rfl) (fun _ _ _ h => h) (Or.inl ⟨by rfl, ?_⟩) (by assumption) ?_
        rotate_left
        · intro w hSw
          (try dsimp only at hSw)
          go_simp
          try with_reducible rfl
        try simp only [Act.put, List.setIfInBounds_toArray, List.set_cons_zero, List.set_cons_succ, List.getElem_toArray, List.getElem_cons_zero, List.getElem_cons_succ]
        refine wpAnyH_take (i := 15) (v := ?_) rfl (by kernel_rfl) (by kernel_rfl) (by kernel_rfl) (fun _ _ _ h => h) (Or.inl ⟨by rfl, ?_⟩) (by assumption) ?_
        rotate_left
        · intro w hSw
          (try dsimp only at hSw)
          go_simp
          try with_reducible rfl
        try simp only [Act.put, List.setIfInBounds_toArray, List.set_cons_zero, List.set_cons_succ, List.getElem_toArray, List.getElem_cons_zero, List.getElem_cons_succ]
        refine wpAnyH_take (i := 16) (v := ?_) rfl (by kernel_rfl) (by kernel_rfl) (by kernel_rfl) (fun _ _ _ h => h) (Or.inl ⟨by rfl, ?_⟩) (by assumption) ?_
        rotate_left
        · intro w hSw
          (try dsimp only at hSw)
          go_simp
          try with_reducible rfl
        try simp only [Act.put, List.setIfInBounds_toArray, List.set_cons_zero, List.set_cons_succ, List.getElem_toArray, List.getElem_cons_zero, List.getElem_cons_succ]
        refine wpAnyH_done (by kernel_rfl) ?_ _
        clear hHeld
        go_wp2_with fail
        go_roundw
        case rel =>
          refine ⟨k + 1, O + q, Mo + 0, es2, hlt, by go_num, rfl, by go_num, ?_, HPE⟩
          have h1 := HST.out
          have h2 := HQQ.out
          have h3 := HEB.out
          refine ⟨by rw [h1.1, h1.2]; omega, by omega, by push_cast; omega, by omega, by push_cast; omega, h3⟩
        case measure => simp [intOf]; omega
      · have m1 : ¬ (z - x < 0) := hzx
        have hwm : IntKind.i64.wrap (Mo + (z - x)) = Mo + (z - x) := by rw [IntWalk.i64_in]; omega
        have hmx : max (z - x) 0 = z - x := by omega
        refine wpAnyH_take (i := 0) (v := ?_) rfl (by kernel_rfl) (by kernel_rfl) (by kernel_rfl) (fun _ _ _ h => h) (Or.inl ⟨by rfl, ?_⟩) (by assumption) ?_
        rotate_left
        · intro w hSw
          (try dsimp only at hSw)
          go_simp
          try with_reducible rfl
        try simp only [Act.put, List.setIfInBounds_toArray, List.set_cons_zero, List.set_cons_succ, List.getElem_toArray, List.getElem_cons_zero, List.getElem_cons_succ]
        refine wpAnyH_take (i := 1) (v := ?_) rfl (by kernel_rfl) (by kernel_rfl) (by kernel_rfl) (fun _ _ _ h => h) (Or.inl ⟨by rfl, ?_⟩) (by assumption) ?_
        rotate_left
        · intro w hSw
          (try dsimp only at hSw)
          go_simp
          try with_reducible rfl
        try simp only [Act.put, List.setIfInBounds_toArray, List.set_cons_zero, List.set_cons_succ, List.getElem_toArray, List.getElem_cons_zero, List.getElem_cons_succ]
        refine wpAnyH_take (i := 3) (v := ?_) rfl (by kernel_rfl) (by kernel_rfl) (by kernel_rfl) (fun _ _ _ h => h) (Or.inl ⟨by rfl, ?_⟩) (by assumption) ?_
        rotate_left
        · intro w hSw
          (try dsimp only at hSw)
          go_simp
          try with_reducible rfl
        try simp only [Act.put, List.setIfInBounds_toArray, List.set_cons_zero, List.set_cons_succ, List.getElem_toArray, List.getElem_cons_zero, List.getElem_cons_succ]
        refine wpAnyH_take (i := 4) (v := ?_) rfl (by kernel_rfl) (by kernel_rfl) (by kernel_rfl) (fun _ _ _ h => h) (Or.inl ⟨by rfl, ?_⟩) (by assumption) ?_
        rotate_left
        · intro w hSw
          (try dsimp only at hSw)
          go_simp
          try with_reducible rfl
        try simp only [Act.put, List.setIfInBounds_toArray, List.set_cons_zero, List.set_cons_succ, List.getElem_toArray, List.getElem_cons_zero, List.getElem_cons_succ]
        refine wpAnyH_take (i := 5) (v := ?_) rfl (by kernel_rfl) (by kernel_rfl) (by kernel_rfl) (fun _ _ _ h => h) (Or.inl ⟨by rfl, ?_⟩) (by assumption) ?_
        rotate_left
        · intro w hSw
          (try dsimp only at hSw)
          go_simp
          try with_reducible rfl
        try simp only [Act.put, List.setIfInBounds_toArray, List.set_cons_zero, List.set_cons_succ, List.getElem_toArray, List.getElem_cons_zero, List.getElem_cons_succ]
        refine wpAnyH_take (i := 8) (v := ?_) rfl (by kernel_rfl) (by kernel_rfl) (by kernel_rfl) (fun _ _ _ h => h) (Or.inl ⟨by rfl, ?_⟩) (by assumption) ?_
        rotate_left
        · intro w hSw
          (try dsimp only at hSw)
          go_simp
          try with_reducible rfl
        try simp only [Act.put, List.setIfInBounds_toArray, List.set_cons_zero, List.set_cons_succ, List.getElem_toArray, List.getElem_cons_zero, List.getElem_cons_succ]
        refine wpAnyH_take (i := 9) (v := ?_) rfl (by kernel_rfl) (by kernel_rfl) (by kernel_rfl) (fun _ _ _ h => h) (Or.inl ⟨by rfl, ?_⟩) (by assumption) ?_
        rotate_left
        · intro w hSw
          (try dsimp only at hSw)
          go_simp
          try with_reducible rfl
        try simp only [Act.put, List.setIfInBounds_toArray, List.set_cons_zero, List.set_cons_succ, List.getElem_toArray, List.getElem_cons_zero, List.getElem_cons_succ]
        refine wpAnyH_take (i := 2) (v := ?_) rfl (by kernel_rfl) (by kernel_rfl) (by kernel_rfl) (fun _ _ _ h => h) (Or.inl ⟨by rfl, ?_⟩) (by assumption) ?_
        rotate_left
        · intro w hSw
          (try dsimp only at hSw)
          go_simp
          try with_reducible rfl
        try simp only [Act.put, List.setIfInBounds_toArray, List.set_cons_zero, List.set_cons_succ, List.getElem_toArray, List.getElem_cons_zero, List.getElem_cons_succ]
        refine wpAnyH_take (i := 6) (v := ?_) rfl (by kernel_rfl) (by kernel_rfl) (by kernel_rfl) (fun _ _ _ h => h) (Or.inl ⟨by rfl, ?_⟩) (by assumption) ?_
        rotate_left
        · intro w hSw
          (try dsimp only at hSw)
          go_simp
          try with_reducible rfl
        try simp only [Act.put, List.setIfInBounds_toArray, List.set_cons_zero, List.set_cons_succ, List.getElem_toArray, List.getElem_cons_zero, List.getElem_cons_succ]
        refine wpAnyH_take (i := 10) (v := ?_) rfl (by kernel_rfl) (by kernel_rfl) (by kernel_rfl) (fun _ _ _ h => h) (Or.inl ⟨by rfl, ?_⟩) (by assumption) ?_
        rotate_left
        · intro w hSw
          (try dsimp only at hSw)
          go_simp
          try with_reducible rfl
        try simp only [Act.put, List.setIfInBounds_toArray, List.set_cons_zero, List.set_cons_succ, List.getElem_toArray, List.getElem_cons_zero, List.getElem_cons_succ]
        refine wpAnyH_take (i := 7) (v := ?_) rfl (by kernel_rfl) (by kernel_rfl) (by kernel_rfl) (fun _ _ _ h => h) (Or.inl ⟨by rfl, ?_⟩) (by assumption) ?_
        rotate_left
        · intro w hSw
          have hcell := hSw.2
          clear hSw
          go_simp
          try with_reducible rfl
        try simp only [Act.put, List.setIfInBounds_toArray, List.set_cons_zero, List.set_cons_succ, List.getElem_toArray, List.getElem_cons_zero, List.getElem_cons_succ]
        refine wpAnyH_take (i := 11) (v := ?_) rfl (by kernel_rfl) (by kernel_rfl) (by kernel_rfl) (fun _ _ _ h => h) (Or.inl ⟨by rfl, ?_⟩) (by assumption) ?_
        rotate_left
        · intro w hSw
          have hcell := hSw.1
          clear hSw
          go_simp
          try with_reducible rfl
        try simp only [Act.put, List.setIfInBounds_toArray, List.set_cons_zero, List.set_cons_succ, List.getElem_toArray, List.getElem_cons_zero, List.getElem_cons_succ]
        refine wpAnyH_take (i := 12) (v := ?_) rfl (by kernel_rfl) (by kernel_rfl) (by kernel_rfl) (fun _ _ _ h => h) (Or.inl ⟨by rfl, ?_⟩) (by assumption) ?_
        rotate_left
        · intro w hSw
          (try dsimp only at hSw)
          go_simp
          try with_reducible rfl
        try simp only [Act.put, List.setIfInBounds_toArray, List.set_cons_zero, List.set_cons_succ, List.getElem_toArray, List.getElem_cons_zero, List.getElem_cons_succ]
        refine wpAnyH_take (i := 13) (v := ?_) rfl (by kernel_rfl) (by kernel_rfl) (by kernel_rfl) (fun _ _ _ h => h) (Or.inl ⟨by rfl, ?_⟩) (by assumption) ?_
        rotate_left
        · intro w hSw
          (try dsimp only at hSw)
          go_simp
          try with_reducible rfl
        try simp only [Act.put, List.setIfInBounds_toArray, List.set_cons_zero, List.set_cons_succ, List.getElem_toArray, List.getElem_cons_zero, List.getElem_cons_succ]
        refine wpAnyH_take (i := 14) (v := ?_) rfl (by kernel_rfl) (by kernel_rfl) (by kernel_rfl) (fun _ _ _ h => h) (Or.inl ⟨by rfl, ?_⟩) (by assumption) ?_
        rotate_left
        · intro w hSw
          (try dsimp only at hSw)
          go_simp
          try with_reducible rfl
        try simp only [Act.put, List.setIfInBounds_toArray, List.set_cons_zero, List.set_cons_succ, List.getElem_toArray, List.getElem_cons_zero, List.getElem_cons_succ]
        refine wpAnyH_take (i := 15) (v := ?_) rfl (by kernel_rfl) (by kernel_rfl) (by kernel_rfl) (fun _ _ _ h => h) (Or.inl ⟨by rfl, ?_⟩) (by assumption) ?_
        rotate_left
        · intro w hSw
          (try dsimp only at hSw)
          go_simp
          try with_reducible rfl
        try simp only [Act.put, List.setIfInBounds_toArray, List.set_cons_zero, List.set_cons_succ, List.getElem_toArray, List.getElem_cons_zero, List.getElem_cons_succ]
        refine wpAnyH_take (i := 16) (v := ?_) rfl (by kernel_rfl) (by kernel_rfl) (by kernel_rfl) (fun _ _ _ h => h) (Or.inl ⟨by rfl, ?_⟩) (by assumption) ?_
        rotate_left
        · intro w hSw
          (try dsimp only at hSw)
          go_simp
          try with_reducible rfl
        try simp only [Act.put, List.setIfInBounds_toArray, List.set_cons_zero, List.set_cons_succ, List.getElem_toArray, List.getElem_cons_zero, List.getElem_cons_succ]
        refine wpAnyH_done (by kernel_rfl) ?_ _
        clear hHeld
        go_wp2_with fail
        go_roundw
        case rel =>
          refine ⟨k + 1, O + q, Mo + (z - x), es2, hlt, by go_num, rfl, by go_num, ?_, HPE⟩
          have h1 := HST.out
          have h2 := HQQ.out
          have h3 := HEB.out
          refine ⟨by rw [h1.1, h1.2]; omega, by omega, by push_cast; omega, by omega, by push_cast; omega, h3⟩
        case measure => simp [intOf]; omega
    · have hki : ¬ ((k : Int) < n) := by omega
      obtain rfl : n = k := by omega
      have HEQ : Hid (O = Mo) := by
        show O = Mo
        have h1 := HOM.out.1
        rw [List.take_of_length_le (by rw [HKS.out.2.1]; exact Nat.le_refl _), List.take_of_length_le (by rw [HPT.out.1]; exact Nat.le_refl _), ← HKS.out.2.2.1, HPT.out.2.2] at h1
        omega
      have heq : (O == Mo) = true := by rw [HEQ.out]; simp
      go_wp2_with fail
      go_ret
      exact ⟨rfl, HP5.out.hb⟩
end Go.Proofs.Ytbclfjdamklbpaa
