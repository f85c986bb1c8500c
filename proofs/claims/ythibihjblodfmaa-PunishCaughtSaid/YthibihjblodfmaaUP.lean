/- PunishCaught: the walk. -/
import Derived.Test.YthibihjblodfmaaUO
import Derived.Test.YthibihjblodfmaaUH
namespace Go.Proofs.Ythibihjblodfmaa
open Go.RowKit Go.Maps

theorem int_size : (Try.prog.info? 3).map (·.size) = some 1 := by kernel_rfl
theorem bsl_size : (Try.prog.info? 23).map (·.size) = some 1 := by kernel_rfl
theorem deC_bs (s k n : Int) (bs bs' : List Int) (b : Bool) (p : Value) : deC ⟨s, k, n, bs, b, 0, false⟩ p = deC ⟨s, k, n, bs', b, 0, false⟩ p := rfl
set_option maxRecDepth 20000 in
set_option maxHeartbeats 8000000 in
theorem pcaught_any (w : World) (A : Option Addr) (N C : Nat) (xs : List (List Value × DeT)) (h : Des w A N xs) (hN : N ≤ 9223372036854775807) (seat kind number : Int) (hn0 : -9223372036854775808 ≤ number) (hn1 : number < 9223372036854775808) (A1 A2 : Option Addr) (N1 N2 C1 C2 : Nat) (bs1 bs2 : List Int) (hs1 : Sl w w.heap.size 1 A1 N1 (bs1.map (.int .u8))) (hs2 : Sl w w.heap.size 1 A2 N2 (bs2.map (.int .u8))) (hb1 : ByOk bs1) (hb2 : ByOk bs2) (second : Bool) :
    Calls Try.prog 7 #[.slice A N C, .int .i64 seat, .int .i64 kind, .int .i64 number, .slice A1 N1 C1, .slice A2 N2 C2, .bool second] w fun e w' => e = .returned (.bool true) ∧ Below w.heap.size w w' := by
  have HD := Lib.hid h
  have HLA : Hid (Sl w w.heap.size 1 A1 N1 (bs1.map (.int .u8)) ∧ Sl w w.heap.size 1 A2 N2 (bs2.map (.int .u8)) ∧ ByOk bs1 ∧ ByOk bs2 ∧ bs1.length = N1 ∧ bs2.length = N2) := ⟨hs1, hs2, hb1, hb2, hs1.length, hs2.length⟩
  have HNR : Hid (-9223372036854775808 ≤ number ∧ number < 9223372036854775808) := ⟨hn0, hn1⟩
  clear h hs1 hs2 hb1 hb2 hn0 hn1
  go_enter Try.func7, Try.ntmps7
  go_upto_region 1 with fail
  go_wp2_with fail
  refine (pknown_any w).mono ?_
  rintro e w2 ⟨rfl, hbn⟩
  have HBB2 := Lib.hid hbn
  clear hbn
  go_wp2_with fail
  refine (fewD_any w2 A N C xs (HD.out.later HBB2.out) hN).mono ?_
  rintro e w3 ⟨rfl, hbn⟩
  have HBB3 := Lib.hid (below_then HBB2.out hbn)
  clear hbn
  obtain ⟨b0, hb0⟩ : ∃ b, fewB xs = b := ⟨_, rfl⟩
  rw [hb0]
  have HFE := Lib.hid hb0
  clear hb0
  cases b0
  ·
    go_wp2_with fail
    refine (pknown_any w3).mono ?_
    rintro e w4 ⟨rfl, hbn⟩
    have HBB4 := Lib.hid (below_then HBB3.out hbn)
    clear hbn
    go_wp2_with fail
    go_ret
    exact ⟨rfl, HBB4.out⟩
  by_cases ha : 60 < N1
  · have hd1 : decide ((60 : Int) < (N1 : Int)) = true := by simp; omega
    go_wp2_with fail
    refine (pknown_any w3).mono ?_
    rintro e w4 ⟨rfl, hbn⟩
    have HBB4 := Lib.hid (below_then HBB3.out hbn)
    clear hbn
    go_wp2_with fail
    go_ret
    exact ⟨rfl, HBB4.out⟩
  have hd1 : decide ((60 : Int) < (N1 : Int)) = false := by simp; omega
  by_cases hb : 60 < N2
  · have hd2 : decide ((60 : Int) < (N2 : Int)) = true := by simp; omega
    go_wp2_with fail
    refine (pknown_any w3).mono ?_
    rintro e w4 ⟨rfl, hbn⟩
    have HBB4 := Lib.hid (below_then HBB3.out hbn)
    clear hbn
    go_wp2_with fail
    go_ret
    exact ⟨rfl, HBB4.out⟩
  have hd2 : decide ((60 : Int) < (N2 : Int)) = false := by simp; omega
  by_cases hc : number < 0
  · have hd3 : decide (number < 0) = true := by simp; omega
    go_wp2_with fail
    refine (pknown_any w3).mono ?_
    rintro e w4 ⟨rfl, hbn⟩
    have HBB4 := Lib.hid (below_then HBB3.out hbn)
    clear hbn
    go_wp2_with fail
    go_ret
    exact ⟨rfl, HBB4.out⟩
  have hd3 : decide (number < 0) = false := by simp; omega
  by_cases hd : 1099511627776 < number
  · have hd4 : decide (1099511627776 < number) = true := by simp; omega
    go_wp2_with fail
    refine (pknown_any w3).mono ?_
    rintro e w4 ⟨rfl, hbn⟩
    have HBB4 := Lib.hid (below_then HBB3.out hbn)
    clear hbn
    go_wp2_with fail
    go_ret
    exact ⟨rfl, HBB4.out⟩
  have hd4 : decide (1099511627776 < number) = false := by simp; omega
  have HFL : Hid ((∀ x ∈ xs, x.2.bs.length ≤ 60) ∧ xs.length ≤ 20) := by
    have h1 := HFE.out
    unfold fewB at h1
    rw [Bool.and_eq_true] at h1
    exact ⟨of_decide_eq_true h1.1, of_decide_eq_true h1.2⟩
  have HRG : Hid (N1 ≤ 60 ∧ N2 ≤ 60 ∧ 0 ≤ number ∧ number ≤ 1099511627776) := ⟨by omega, by omega, by omega, by omega⟩
  go_wp2_with fail
  refine (newBook_any w3).mono ?_
  rintro e w4 ⟨⟨g, rfl, hbk⟩, hbn⟩
  obtain ⟨lo, hlo⟩ : ∃ lo, w3.heap.size = lo := ⟨_, rfl⟩
  rw [hlo] at hbk
  have HFI4 : Hid (FI w w4 lo g (.slice none 0 0) [] []) := ⟨World.ownsRow_nil _ _ _ _, fun y hy => by simp at hy, hbk, below_then HBB3.out hbn, hlo ▸ hbn.size, hlo ▸ HBB3.out.size⟩
  clear hbk hbn hlo hd1 hd2 hd3 hd4 ha hb hc hd
  go_wp2_with fail
  have HLN := Lib.hid HD.out.length
  have HN20 : Hid (N ≤ 20) := by show N ≤ 20; have h2 := HFL.out.2; rw [HLN.out] at h2; exact h2
  go_loopw [16, 18, 65] (fun v8 _ kv wr => ∃ k : Nat, k ≤ N ∧ kv = .int .i64 k ∧ ∃ (ys : List (List Value × Tg)) (es : List Ent), Hid (FI w wr lo g v8 ys es) ∧ Hid (ys.length = k ∧ es.length ≤ k ∧ (ys.map (·.2), es) = signS ((xs.take k).map (fun x => csD seat x.2)))) (fun _ _ kv _ => N - (intOf kv).toNat)
  case atStart => exact ⟨0, Nat.zero_le _, rfl, [], [], HFI4, rfl, Nat.le_refl _, by simp [signS]⟩
  case round =>
    clear HFI4
    obtain ⟨k, hk, rfl, ys, es, HFI, HSS⟩ := hrel
    have HEL : Hid (es.length < 65530) := by show es.length < 65530; have := HSS.out.2.1; have := HN20.out; omega
    by_cases hlt : k < N
    · have hki : (k : Int) < N := by omega
      have hk0 : (0 : Int) ≤ k := by omega
      obtain ⟨x, hx⟩ : ∃ x, xs[k]? = some x := ⟨xs[k]'(by rw [HLN.out]; omega), List.getElem?_eq_getElem _⟩
      obtain ⟨A', N', C', hx1, hx2, hx3⟩ := HD.out.de x (List.mem_of_getElem? hx)
      have HDO := Lib.hid (csD_ok (hx3 (HFL.out.1 x (List.mem_of_getElem? hx))) seat)
      obtain ⟨b, o, rfl, hr⟩ := HD.out.at_ HFI.out.hb hx
      rw [hx1] at hr
      have HR := Lib.hid hr
      have HNX : Hid (signS ((xs.take (k + 1)).map (fun x => csD seat x.2)) = stepS (ys.map (·.2), es) (csD seat x.2)) := by
        show _ = _
        rw [List.take_add_one, hx]
        simp only [Option.toList_some, List.map_append, List.map_cons, List.map_nil]
        rw [signS_add, ← HSS.out.2.2]
      clear hr hx hx1 hx2 hx3
      go_wp2_with (first
        | (with_reducible refine wpList_load_mid rfl 70 _ rfl b (o + k * 7) rfl (deC x.2 (.slice A' N' C')) _ HR.out Try.underlying70 rfl (de_size' x.2 A' N' C') ?_)
        | (with_reducible refine stop_store 70 _ _ rfl ?_))
      refine StopD.go ?_
      obtain ⟨q, hq⟩ : ∃ q, wr.heap.size = q := ⟨_, rfl⟩
      obtain ⟨w5, hw5⟩ : ∃ w5, wr.alloc (.cells #[.int .i64 0, .int .i64 0, .int .i64 0, .slice none 0 0, .bool false, .int .u8 0, .bool false] 70) = w5 := ⟨_, rfl⟩
      have hbn : Below wr.heap.size wr w5 := hw5 ▸ below_new wr _
      have kb : Bk w5 q 70 ([] ++ ([.int .i64 0, .int .i64 0, .int .i64 0, .slice none 0 0, .bool false, .int .u8 0, .bool false] ++ [])) := by rw [← hw5]; exact Bk.at_ wr _ _ hq rfl
      have HQG : Hid (wr.heap.size ≤ q) := Nat.le_of_eq hq
      rw [hq, hw5]
      refine wpList_store_part rfl 70 _ _ rfl q 0 (.agg (deC x.2 (.slice A' N' C')).toArray) (deC x.2 (.slice A' N' C')) rfl rfl rfl 70 [] _ [] kb rfl rfl (de_size' _ _ _ _) (deC_one _ _ _ _) ?_
      intro w6 hp
      have hbn : Below wr.heap.size wr w6 := hbn.grown hp.only hbn.size (fun q' hq' => by injection hq' with hq'; omega)
      have HBN := Lib.hid hbn
      have HQ6 : Hid (Bk w6 q 70 ([] ++ ([.int .i64 x.2.seat] ++ [.int .i64 x.2.kind, .int .i64 x.2.n, .slice A' N' C', .bool x.2.tb, .int .u8 x.2.pl, .bool x.2.sp]))) := by show Bk _ _ _ _; have := hp.bk; simpa [deC] using this
      clear hp hbn kb hq hw5 HR
      go_wp2_with (with_reducible refine stop_store 3 _ _ rfl ?_)
      refine StopD.go ?_
      refine wpList_store_part rfl 3 _ _ rfl q 0 (.int .i64 (wrap64 (seat + 1))) [.int .i64 (wrap64 (seat + 1))] rfl rfl rfl 70 [] [.int .i64 x.2.seat] [.int .i64 x.2.kind, .int .i64 x.2.n, .slice A' N' C', .bool x.2.tb, .int .u8 x.2.pl, .bool x.2.sp] HQ6.out rfl rfl int_size (by intro x hx; simp at hx; subst hx; rfl) ?_
      intro w6' hp
      have hbn : Below wr.heap.size wr w6' := HBN.out.grown hp.only HBN.out.size (fun q' hq' => by injection hq' with hq'; have := HQG.out; omega)
      have HFI6 := Lib.hid (HFI.out.later hbn)
      have HQ6' : Hid (Bk w6' q 70 (deC (csD seat x.2) (.slice A' N' C'))) := by show Bk _ _ _ _; have := hp.bk; simpa [deC, csD] using this
      clear hp hbn HFI HBN HQG HQ6
      go_wp2_with (with_reducible refine wpList_load_bk rfl 70 _ rfl q rfl (deC (csD seat x.2) (.slice A' N' C')) 70 HQ6'.out _ Try.underlying70 rfl (de_size' (csD seat x.2) A' N' C') ?_)
      refine (dsign_any w w6' lo g es HFI6.out.bk (by have := HEL.out; omega) HFI6.out.lh HFI6.out.hb HFI6.out.wl (csD seat x.2) A' N' C' HDO.out).mono ?_
      rintro e w7 ⟨⟨cs, rfl, hth⟩, hbk, hb, hk7⟩
      have HFI7 := Lib.hid (HFI6.out.sign hk7 hb hbk); have HTH7 := Lib.hid hth
      clear hth hbk hb hk7 HFI6 HQ6'
      go_wp2_with (with_reducible refine stop_bs 68 _ _ rfl ?_)
      refine StopD.go ?_
      refine wpList_bsliceG rfl 68 1 _ rfl #[(0, .agg cs.toArray)] ?_ 35 cs (fun w => bs_th HTH7.out w) ?_
      · simp [Act.eval, Act.put]
      intro q8 w8 hq8 hb8 hbn
      have HFI8 := Lib.hid (HFI7.out.later hbn); have HTH8 := Lib.hid (HTH7.out.later hbn); have HB8 := Lib.hid hb8
      clear hq8 hb8 hbn HFI7 HTH7
      go_wp2_with (at_builtin; refine stop_here ?_)
      refine StopD.go ?_
      obtain ⟨i0, z0', hi, hi0, hi1, hi2, hi3⟩ := th_parts
      have hyk := HSS.out.1
      have hk20 := HN20.out
      refine wpList_app _ rfl (.tmp 72) (.tmp 76) 68 rfl lo 35 i0 z0' 30 120 Try.underlying68 hi hi0 hi1 hi2 hi3 (by decide) _ _ _ rfl HFI8.out.row _ _ _ _ _ rfl (Sl.of_own (HB8.out.own (base := 0) (size := 30) (cap := 1) (n := 1) (Nat.zero_le _) (Nat.le_refl _) (by omega) (by rw [HTH8.out.len]) (by rw [List.take_of_length_le (by rw [HTH8.out.len]; exact Nat.le_refl _)]))) HTH8.out.one (by unfold maxLen; omega) (by omega) HFI8.out.lh ?_
      intro v w9 hown hg hat
      have HFI9 := Lib.hid (HFI8.out.app (y := (cs, deT (csD seat x.2) es)) HTH8.out hown hg)
      clear hown hg hat hi hi0 hi1 hi2 hi3 hyk hk20
      go_wp2_with fail
      case roundEnd =>
        refine ⟨⟨k + 1, hlt, by simp, _, _, HFI9, by simp [HSS.out.1], Nat.le_trans (bookS_le _ _) (Nat.succ_le_succ HSS.out.2.1), ?_⟩, by simp [intOf]; omega⟩
        rw [HNX.out]
        simp [stepS]
    · have hki : ¬ ((k : Int) < N) := by omega
      obtain ⟨A8, C8, hv8, _⟩ := HFI.out.ths
      subst hv8
      obtain ⟨n, hn⟩ : ∃ n, ys.length = n := ⟨_, rfl⟩
      have HNN : Hid (n ≤ 20) := by show n ≤ 20; have h1 := HSS.out.1; have h2 := HN20.out; omega
      have HYN := Lib.hid hn
      obtain ⟨ds, hds⟩ : ∃ ds, (xs.take k).map (fun x => csD seat x.2) = ds := ⟨_, rfl⟩
      have HFO : Hid (∀ y ∈ ys.map (·.2), ForB seat es y.ss) := by
        have h1 := signS_for seat _ ds rfl (fun d hd => by
          rw [← hds] at hd
          obtain ⟨x, _, rfl⟩ := List.mem_map.1 hd
          exact key_cs seat x.2)
        have h2 := HSS.out.2.2
        rw [hds] at h2
        rw [← h2] at h1
        exact h1
      rw [hn]
      rw [hn] at HFI
      clear hn hlt hk HSS hds
      have hb1 := build_de seat kind number A1 N1 C1 second
      have HOK : Hid (DeOk w ⟨seat, kind, number, bs1, second, 0, false⟩ A1 N1 ∧ DeOk w ⟨seat, kind, number, bs2, second, 0, false⟩ A2 N2) := ⟨⟨HLA.out.1, HLA.out.2.2.1, by have := HRG.out.1; have := HLA.out.2.2.2.2.1; show bs1.length ≤ 60; omega, HNR.out.1, HNR.out.2, by show (0:Int) ≤ 0; decide, by show (0:Int) < 256; decide⟩, ⟨HLA.out.2.1, HLA.out.2.2.2.1, by have := HRG.out.2.1; have := HLA.out.2.2.2.2.2; show bs2.length ≤ 60; omega, HNR.out.1, HNR.out.2, by show (0:Int) ≤ 0; decide, by show (0:Int) < 256; decide⟩⟩
      obtain ⟨o, ho⟩ : ∃ o : DeT, o = ⟨seat, kind, number, bs1, second, 0, false⟩ := ⟨_, rfl⟩
      obtain ⟨t, ht⟩ : ∃ t : DeT, t = ⟨seat, kind, number, bs2, second, 0, false⟩ := ⟨_, rfl⟩
      have HCG : Hid (Cgt seat es (ys.map (·.2)) o t) := ⟨HFO.out, by rw [ho], by rw [ht], by rw [ho], by rw [ht], by rw [ho, ht], by rw [ho, ht], by rw [ho, ht], by rw [ho, ht]⟩
      have HON : Hid (0 ≤ o.n ∧ o.n ≤ 1099511627776 ∧ o.bs.length ≤ 60 ∧ t.bs.length ≤ 60 ∧ o.tb = second) := ⟨by rw [ho]; exact HRG.out.2.2.1, by rw [ho]; exact HRG.out.2.2.2, by rw [ho]; exact HOK.out.1.bl, by rw [ht]; exact HOK.out.2.bl, by rw [ho]⟩
      have HDO : Hid (DeOk w o A1 N1) := by show DeOk _ _ _ _; rw [ho]; exact HOK.out.1
      have HDT : Hid (DeOk w t A2 N2) := by show DeOk _ _ _ _; rw [ht]; exact HOK.out.2
      have HC1 : Hid (deC ⟨seat, kind, number, [], second, 0, false⟩ (.slice A1 N1 C1) = deC o (.slice A1 N1 C1)) := by show _ = _; rw [ho]; rfl
      have HC2 : Hid ([.int .i64 seat, .int .i64 kind, .int .i64 number] ++ ([.slice A2 N2 C2] ++ [.bool second, .int .u8 0, .bool false]) = deC t (.slice A2 N2 C2)) := by show _ = _; rw [ht]; rfl
      have HC3 : Hid ([.int .i64 seat, .int .i64 kind, .int .i64 number] ++ ([.slice A1 N1 C1] ++ [.bool second, .int .u8 0, .bool false]) = deC o (.slice A1 N1 C1)) := by show _ = _; rw [ho]; rfl
      clear ho ht HOK HFO
      rw [HC1.out] at hb1
      go_wp2_with (first
        | ((with_reducible refine wpList_build rfl 70 _ rfl #[(0, .int .i64 seat), (1, .int .i64 kind), (2, .int .i64 number), (3, .slice A1 N1 C1), (4, .bool second)] ?_ _ (hb1 _) ?_); focus (simp [Act.eval, Act.put]; done))
        | (with_reducible refine stop_store 70 _ _ rfl ?_))
      refine StopD.go ?_
      obtain ⟨q1, hq1⟩ : ∃ q, wr.heap.size = q := ⟨_, rfl⟩
      obtain ⟨wy, hwy⟩ : ∃ w5, wr.alloc (.cells #[.int .i64 0, .int .i64 0, .int .i64 0, .slice none 0 0, .bool false, .int .u8 0, .bool false] 70) = w5 := ⟨_, rfl⟩
      have hbn : Below wr.heap.size wr wy := hwy ▸ below_new wr _
      have kb : Bk wy q1 70 ([] ++ ([.int .i64 0, .int .i64 0, .int .i64 0, .slice none 0 0, .bool false, .int .u8 0, .bool false] ++ [])) := by rw [← hwy]; exact Bk.at_ wr _ _ hq1 rfl
      have HLGq1 : Hid (wr.heap.size ≤ q1) := Nat.le_of_eq hq1
      rw [hq1, hwy]
      refine wpList_store_part rfl 70 _ _ rfl q1 0 (.agg (deC o (.slice A1 N1 C1)).toArray) (deC o (.slice A1 N1 C1)) rfl rfl rfl 70 [] _ [] kb rfl rfl (de_size' _ _ _ _) (deC_one _ _ _ _) ?_
      intro w6 hp
      have hbn : Below wr.heap.size wr w6 := hbn.grown hp.only hbn.size (fun q' hq' => by injection hq' with hq'; omega)
      have HDq1 : Hid (Bk w6 q1 70 (deC o (.slice A1 N1 C1))) := by show Bk _ _ _ _; have := hp.bk; simpa using this
      clear hp kb hq1 hwy
      have HFI6 := Lib.hid (HFI.out.later hbn)
      clear hbn HFI hb1
      go_wp2_with (first
        | (with_reducible refine wpList_load_bk rfl 70 _ rfl q1 rfl (deC o (.slice A1 N1 C1)) 70 HDq1.out _ Try.underlying70 rfl (de_size' o A1 N1 C1) ?_)
        | (with_reducible refine stop_store 70 _ _ rfl ?_))
      refine StopD.go ?_
      obtain ⟨q2, hq2⟩ : ∃ q, w6.heap.size = q := ⟨_, rfl⟩
      obtain ⟨wy, hwy⟩ : ∃ w5, w6.alloc (.cells #[.int .i64 0, .int .i64 0, .int .i64 0, .slice none 0 0, .bool false, .int .u8 0, .bool false] 70) = w5 := ⟨_, rfl⟩
      have hbn : Below w6.heap.size w6 wy := hwy ▸ below_new w6 _
      have kb : Bk wy q2 70 ([] ++ ([.int .i64 0, .int .i64 0, .int .i64 0, .slice none 0 0, .bool false, .int .u8 0, .bool false] ++ [])) := by rw [← hwy]; exact Bk.at_ w6 _ _ hq2 rfl
      have HLGq2 : Hid (w6.heap.size ≤ q2) := Nat.le_of_eq hq2
      rw [hq2, hwy]
      refine wpList_store_part rfl 70 _ _ rfl q2 0 (.agg (deC o (.slice A1 N1 C1)).toArray) (deC o (.slice A1 N1 C1)) rfl rfl rfl 70 [] _ [] kb rfl rfl (de_size' _ _ _ _) (deC_one _ _ _ _) ?_
      intro w7 hp
      have hbn : Below w6.heap.size w6 w7 := hbn.grown hp.only hbn.size (fun q' hq' => by injection hq' with hq'; omega)
      have HDq2 : Hid (Bk w7 q2 70 (deC o (.slice A1 N1 C1))) := by show Bk _ _ _ _; have := hp.bk; simpa using this
      clear hp kb hq2 hwy
      have HBN := Lib.hid hbn
      clear hbn
      go_wp2_with (with_reducible refine stop_store 23 _ _ rfl ?_)
      refine StopD.go ?_
      refine wpList_store_part rfl 23 _ _ rfl q2 3 (.slice A2 N2 C2) [.slice A2 N2 C2] rfl rfl rfl 70 [.int .i64 seat, .int .i64 kind, .int .i64 number] [.slice A1 N1 C1] [.bool second, .int .u8 0, .bool false] (by rw [HC3.out]; exact HDq2.out) rfl rfl bsl_size (by intro x hx; simp at hx; subst hx; rfl) ?_
      intro w8 hp
      have hbn : Below w6.heap.size w6 w8 := HBN.out.grown hp.only HBN.out.size (fun q' hq' => by injection hq' with hq'; have := HLGq2.out; omega)
      have HFI8 := Lib.hid (HFI6.out.later hbn)
      have HD1 := Lib.hid (HDq1.out.later hbn)
      have HD2 : Hid (Bk w8 q2 70 (deC t (.slice A2 N2 C2))) := by show Bk _ _ _ _; rw [← HC2.out]; exact hp.bk
      clear hp hbn HBN HDq1 HDq2 HLGq1 HLGq2 HFI6 HC1 HC2 HC3
      obtain ⟨z0, hz0⟩ : ∃ z, w8.heap.size = z := ⟨_, rfl⟩
      have HCB8 : Hid (CB w w8 lo g (.slice A8 n C8) ys es q1 q2 (deC o (.slice A1 N1 C1)) (deC t (.slice A2 N2 C2)) z0) := ⟨HFI8.out, HD1.out, HD2.out, Nat.le_of_eq hz0.symm, fun q hq => hz0 ▸ HFI8.out.lt q hq, hz0 ▸ HFI8.out.lh⟩
      clear hz0 HFI8 HD1 HD2
      have HEL0 : Hid (es.length < 65536) := by show es.length < 65536; have := HEL.out; omega
      have HEL1 : Hid ((bookS es (deE o)).length < 65536) := by show (bookS es (deE o)).length < 65536; have := HEL.out; have := bookS_le es (deE o); omega
      have HEL2 : Hid ((bookS (bookS es (deE o)) (deE t)).length ≤ 65536) := by show (bookS _ _).length ≤ 65536; have := HEL.out; have := bookS_le es (deE o); have := bookS_le (bookS es (deE o)) (deE t); omega
      go_upto_region 16 with fail
      try simp only [Act.put, List.setIfInBounds_toArray, List.set_cons_zero, List.set_cons_succ, List.getElem_toArray, List.getElem_cons_zero, List.getElem_cons_succ]
      go_cut [21, 22] (fun p q wx => ∃ (gx gy : Nat) (cx cy : List Value), p = .pointer (some ⟨gx, 0, none⟩) ∧ q = .pointer (some ⟨gy, 0, none⟩) ∧ Hid (CB w wx lo g (.slice A8 n C8) ys (bookS (bookS es (deE o)) (deE t)) q1 q2 (deC o (.slice A1 N1 C1)) (deC t (.slice A2 N2 C2)) z0) ∧ Hid (Bk wx gx 35 cx) ∧ Hid (Bk wx gy 35 cy) ∧ Hid (ThK w wx cx (deT o es)) ∧ Hid (ThK w wx cy (deT t (bookS es (deE o)))))
      case first =>
        as_aux_lemma =>
        refine wp_region_held_drew (S := fun w' => Bk w' q1 70 (deC o (.slice A1 N1 C1)) ∧ Bk w' q2 70 (deC t (.slice A2 N2 C2))) (by kernel_rfl) ⟨Bk.drew HCB8.out.b1, Bk.drew HCB8.out.b2⟩ (fun hHeld => ?_)
        have hbd : Below w8.heap.size w8 w8.drew := below_draws w8 w8.heap.size 1
        obtain ⟨ws, hws⟩ : ∃ ws, w8.drew = ws := ⟨_, rfl⟩
        rw [hws] at hbd hHeld ⊢
        have HCBs := Lib.hid (HCB8.out.later hbd)
        clear hws hbd HCB8
        refine wpAnyH_take (i := 0) (v := .agg (List.toArray (deC o (.slice A1 N1 C1)))) rfl (by kernel_rfl) (by kernel_rfl) (by kernel_rfl) (fun _ _ _ h => h) (yieldsIf_load_mid (by rfl) _ _ rfl _ _ rfl (deC o (.slice A1 N1 C1)) _ (fun w hSw => (Bk.range (pre := []) (post := []) (by simpa using hSw.1) rfl)) Try.underlying70 rfl ((de_size' o A1 N1 C1))) (by assumption) ?_
        try simp only [Act.put, List.setIfInBounds_toArray, List.set_cons_zero, List.set_cons_succ, List.getElem_toArray, List.getElem_cons_zero, List.getElem_cons_succ]
        refine wpAnyH_take (i := 1) (v := ?_) rfl (by kernel_rfl) (by kernel_rfl) (by kernel_rfl) (fun _ _ _ h => h) (Or.inl ⟨by rfl, ?_⟩) (by assumption) ?_
        rotate_left
        · intro w hSw
          (try dsimp only at hSw)
          go_simp
          try with_reducible rfl
        try simp only [Act.put, List.setIfInBounds_toArray, List.set_cons_zero, List.set_cons_succ, List.getElem_toArray, List.getElem_cons_zero, List.getElem_cons_succ]
        refine wpAnyH_take (i := 3) (v := .agg (List.toArray (deC t (.slice A2 N2 C2)))) rfl (by kernel_rfl) (by kernel_rfl) (by kernel_rfl) (fun _ _ _ h => h) (yieldsIf_load_mid (by rfl) _ _ rfl _ _ rfl (deC t (.slice A2 N2 C2)) _ (fun w hSw => (Bk.range (pre := []) (post := []) (by simpa using hSw.2) rfl)) Try.underlying70 rfl ((de_size' t A2 N2 C2))) (by assumption) ?_
        try simp only [Act.put, List.setIfInBounds_toArray, List.set_cons_zero, List.set_cons_succ, List.getElem_toArray, List.getElem_cons_zero, List.getElem_cons_succ]
        refine wpAnyH_take (i := 4) (v := ?_) rfl (by kernel_rfl) (by kernel_rfl) (by kernel_rfl) (fun _ _ _ h => h) (Or.inl ⟨by rfl, ?_⟩) (by assumption) ?_
        rotate_left
        · intro w hSw
          (try dsimp only at hSw)
          go_simp
          try with_reducible rfl
        try simp only [Act.put, List.setIfInBounds_toArray, List.set_cons_zero, List.set_cons_succ, List.getElem_toArray, List.getElem_cons_zero, List.getElem_cons_succ]
        refine wpAnyH_ready (rs := [2, 6, 7]) (by kernel_rfl) (by simp) ?_
        refine AllReadyH.cons rfl (fun K hK => ?_) ?_
        ·
          go_simp
          go_at_call 38
          refine (dsign_any w ws lo g es HCBs.out.fi.bk HEL0.out HCBs.out.fi.lh HCBs.out.fi.hb HCBs.out.fi.wl o A1 N1 C1 HDO.out).mono ?_
          rintro e wsp ⟨⟨cx, rfl, hth⟩, hbk, hb, hk⟩
          have HXsp := Lib.hid hth; have HCBsp := Lib.hid (HCBs.out.sign hk hb hbk)
          clear hth hbk hb hk
          refine hK.out _ _ ⟨HCBsp.out.b1, HCBsp.out.b2⟩ (fun hHeld => ?_)
          clear hK K
          try simp only [Act.put, List.setIfInBounds_toArray, List.set_cons_zero, List.set_cons_succ, List.getElem_toArray, List.getElem_cons_zero, List.getElem_cons_succ]
          refine wpAnyH_ready (rs := [5, 6, 7]) (by kernel_rfl) (by simp) ?_
          refine AllReadyH.cons rfl (fun K hK => ?_) ?_
          ·
            go_simp
            go_at_call 38
            refine (dsign_any w wsp lo g (bookS es (deE o)) HCBsp.out.fi.bk HEL1.out HCBsp.out.fi.lh HCBsp.out.fi.hb HCBsp.out.fi.wl t A2 N2 C2 HDT.out).mono ?_
            rintro e wspq ⟨⟨cy, rfl, hth⟩, hbk, hb, hk⟩
            have HYspq := Lib.hid hth; have HCBspq := Lib.hid (HCBsp.out.sign hk hb hbk)
            have HXspq := Lib.hid (HXsp.out.keeps hk)
            clear hth hbk hb hk
            refine hK.out _ _ ⟨HCBspq.out.b1, HCBspq.out.b2⟩ (fun hHeld => ?_)
            clear hK K
            try simp only [Act.put, List.setIfInBounds_toArray, List.set_cons_zero, List.set_cons_succ, List.getElem_toArray, List.getElem_cons_zero, List.getElem_cons_succ]
            refine wpAnyH_ready (rs := [6, 7]) (by kernel_rfl) (by simp) ?_
            refine AllReadyH.cons rfl (fun K hK => ?_) ?_
            ·
              go_simp
              obtain ⟨gx, hgx⟩ : ∃ g, wspq.heap.size = g := ⟨_, rfl⟩
              obtain ⟨wspqx, hwspqx⟩ : ∃ w', wspq.alloc (.cells #[.int .i64 0, .int .u8 0, .int .u8 0, .int .u8 0, .int .u8 0, .int .u8 0, .int .u8 0, .int .u8 0, .int .u8 0, .int .i64 0, .slice none 0 0, .int .u8 0, .int .u8 0, .int .u8 0, .int .u8 0, .int .u8 0, .int .u8 0, .int .u8 0, .int .u8 0, .int .i64 0, .int .u8 0, .int .u8 0, .int .u8 0, .int .u8 0, .int .u8 0, .int .u8 0, .int .u8 0, .int .u8 0, .slice none 0 0, .slice none 0 0] 35) = w' := ⟨_, rfl⟩
              have hbn : Below wspq.heap.size wspq wspqx := hwspqx ▸ below_new wspq _
              have HGxspqx : Hid (Bk wspqx gx 35 zTh) := by show Bk _ _ _ _; rw [← hwspqx]; exact Bk.at_ wspq _ _ hgx rfl
              have HLx : Hid (z0 ≤ gx) := by show _ ≤ _; rw [← hgx]; exact HCBspq.out.sz
              rw [hgx, hwspqx]
              clear hgx hwspqx
              have HXspqx := Lib.hid (HXspq.out.later hbn)
              have HYspqx := Lib.hid (HYspq.out.later hbn)
              have HCBspqx := Lib.hid (HCBspq.out.later hbn)
              clear hbn
              refine hK.out _ _ ⟨HCBspqx.out.b1, HCBspqx.out.b2⟩ (fun hHeld => ?_)
              clear hK K
              try simp only [Act.put, List.setIfInBounds_toArray, List.set_cons_zero, List.set_cons_succ, List.getElem_toArray, List.getElem_cons_zero, List.getElem_cons_succ]
              refine wpAnyH_ready (rs := [7]) (by kernel_rfl) (by simp) ?_
              refine AllReadyH.cons rfl (fun K hK => ?_) ?_
              ·
                go_simp
                obtain ⟨gy, hgy⟩ : ∃ g, wspqx.heap.size = g := ⟨_, rfl⟩
                obtain ⟨wspqxy, hwspqxy⟩ : ∃ w', wspqx.alloc (.cells #[.int .i64 0, .int .u8 0, .int .u8 0, .int .u8 0, .int .u8 0, .int .u8 0, .int .u8 0, .int .u8 0, .int .u8 0, .int .i64 0, .slice none 0 0, .int .u8 0, .int .u8 0, .int .u8 0, .int .u8 0, .int .u8 0, .int .u8 0, .int .u8 0, .int .u8 0, .int .i64 0, .int .u8 0, .int .u8 0, .int .u8 0, .int .u8 0, .int .u8 0, .int .u8 0, .int .u8 0, .int .u8 0, .slice none 0 0, .slice none 0 0] 35) = w' := ⟨_, rfl⟩
                have hbn : Below wspqx.heap.size wspqx wspqxy := hwspqxy ▸ below_new wspqx _
                have HGyspqxy : Hid (Bk wspqxy gy 35 zTh) := by show Bk _ _ _ _; rw [← hwspqxy]; exact Bk.at_ wspqx _ _ hgy rfl
                have HLy : Hid (z0 ≤ gy) := by show _ ≤ _; rw [← hgy]; exact HCBspqx.out.sz
                have HNE : Hid (gx ≠ gy) := by show _ ≠ _; have := HGxspqx.out.lt; omega
                rw [hgy, hwspqxy]
                clear hgy hwspqxy
                have HXspqxy := Lib.hid (HXspqx.out.later hbn)
                have HYspqxy := Lib.hid (HYspqx.out.later hbn)
                have HGxspqxy := Lib.hid (HGxspqx.out.later hbn)
                have HCBspqxy := Lib.hid (HCBspqx.out.later hbn)
                clear hbn
                refine hK.out _ _ ⟨HCBspqxy.out.b1, HCBspqxy.out.b2⟩ (fun hHeld => ?_)
                clear hK K
                try simp only [Act.put, List.setIfInBounds_toArray, List.set_cons_zero, List.set_cons_succ, List.getElem_toArray, List.getElem_cons_zero, List.getElem_cons_succ]
                refine wpAnyH_ready (rs := [8]) (by kernel_rfl) (by simp) ?_
                refine AllReadyH.cons rfl (fun K hK => ?_) AllReadyH.nil
                rw [if_pos (by rfl)]
                refine wp_store_part _ _ _ rfl gx 0 _ (cx) rfl rfl rfl _ ([]) (zTh) ([]) (by simpa using HGxspqxy.out) rfl (by rw [HXspqxy.out.len]; rfl) (HXspqxy.out.info) HXspqxy.out.one ?_
                intro wy hp
                refine hK.out _ _ ⟨(HCBspqxy.out.put hp HGxspqxy.out HLx.out).b1, (HCBspqxy.out.put hp HGxspqxy.out HLx.out).b2⟩ (fun hHeld => ?_)
                clear hK K
                try simp only [Act.put, List.setIfInBounds_toArray, List.set_cons_zero, List.set_cons_succ, List.getElem_toArray, List.getElem_cons_zero, List.getElem_cons_succ]
                have HCBy := Lib.hid (HCBspqxy.out.put hp HGxspqxy.out HLx.out); have KX1 : Hid (Bk wy gx 35 cx) := by show Bk _ _ _ _; have := hp.bk; simpa using this
                have KGy : Hid (Bk wy gy 35 zTh) := HGyspqxy.out.grown hp.only (by intro h; injection h with h; exact HNE.out h.symm)
                have HXy := Lib.hid (HXspqxy.out.grown hp.only HGxspqxy.out (by decide)); have HYy := Lib.hid (HYspqxy.out.grown hp.only HGxspqxy.out (by decide))
                clear hp
                refine wpAnyH_ready (rs := [9]) (by kernel_rfl) (by simp) ?_
                refine AllReadyH.cons rfl (fun K hK => ?_) AllReadyH.nil
                rw [if_pos (by rfl)]
                refine wp_store_part _ _ _ rfl gy 0 _ (cy) rfl rfl rfl _ ([]) (zTh) ([]) (by simpa using KGy.out) rfl (by rw [HYy.out.len]; rfl) (HYy.out.info) HYy.out.one ?_
                intro wz hp2
                refine hK.out _ _ ⟨(HCBy.out.put hp2 KGy.out HLy.out).b1, (HCBy.out.put hp2 KGy.out HLy.out).b2⟩ (fun hHeld => ?_)
                clear hK K
                try simp only [Act.put, List.setIfInBounds_toArray, List.set_cons_zero, List.set_cons_succ, List.getElem_toArray, List.getElem_cons_zero, List.getElem_cons_succ]
                refine wpAnyH_done (by kernel_rfl) ?_ _
                have KX : Hid (Bk wz gx 35 cx) := KX1.out.grown hp2.only (by intro h; injection h with h; exact HNE.out h)
                have KY : Hid (Bk wz gy 35 cy) := by show Bk _ _ _ _; have := hp2.bk; simpa using this
                have TX := Lib.hid (HXy.out.grown hp2.only KGy.out (by decide)); have TY := Lib.hid (HYy.out.grown hp2.only KGy.out (by decide)); have KC := Lib.hid (HCBy.out.put hp2 KGy.out HLy.out)
                clear hHeld hp2
                go_wp2_with fail
                go_meet
                exact ⟨gx, gy, cx, cy, rfl, rfl, KC, KX, KY, TX, TY⟩
              exact AllReadyH.nil
            refine AllReadyH.cons rfl (fun K hK => ?_) ?_
            ·
              go_simp
              obtain ⟨gy, hgy⟩ : ∃ g, wspq.heap.size = g := ⟨_, rfl⟩
              obtain ⟨wspqy, hwspqy⟩ : ∃ w', wspq.alloc (.cells #[.int .i64 0, .int .u8 0, .int .u8 0, .int .u8 0, .int .u8 0, .int .u8 0, .int .u8 0, .int .u8 0, .int .u8 0, .int .i64 0, .slice none 0 0, .int .u8 0, .int .u8 0, .int .u8 0, .int .u8 0, .int .u8 0, .int .u8 0, .int .u8 0, .int .u8 0, .int .i64 0, .int .u8 0, .int .u8 0, .int .u8 0, .int .u8 0, .int .u8 0, .int .u8 0, .int .u8 0, .int .u8 0, .slice none 0 0, .slice none 0 0] 35) = w' := ⟨_, rfl⟩
              have hbn : Below wspq.heap.size wspq wspqy := hwspqy ▸ below_new wspq _
              have HGyspqy : Hid (Bk wspqy gy 35 zTh) := by show Bk _ _ _ _; rw [← hwspqy]; exact Bk.at_ wspq _ _ hgy rfl
              have HLy : Hid (z0 ≤ gy) := by show _ ≤ _; rw [← hgy]; exact HCBspq.out.sz
              rw [hgy, hwspqy]
              clear hgy hwspqy
              have HXspqy := Lib.hid (HXspq.out.later hbn)
              have HYspqy := Lib.hid (HYspq.out.later hbn)
              have HCBspqy := Lib.hid (HCBspq.out.later hbn)
              clear hbn
              refine hK.out _ _ ⟨HCBspqy.out.b1, HCBspqy.out.b2⟩ (fun hHeld => ?_)
              clear hK K
              try simp only [Act.put, List.setIfInBounds_toArray, List.set_cons_zero, List.set_cons_succ, List.getElem_toArray, List.getElem_cons_zero, List.getElem_cons_succ]
              refine wpAnyH_ready (rs := [6]) (by kernel_rfl) (by simp) ?_
              refine AllReadyH.cons rfl (fun K hK => ?_) ?_
              ·
                go_simp
                obtain ⟨gx, hgx⟩ : ∃ g, wspqy.heap.size = g := ⟨_, rfl⟩
                obtain ⟨wspqyx, hwspqyx⟩ : ∃ w', wspqy.alloc (.cells #[.int .i64 0, .int .u8 0, .int .u8 0, .int .u8 0, .int .u8 0, .int .u8 0, .int .u8 0, .int .u8 0, .int .u8 0, .int .i64 0, .slice none 0 0, .int .u8 0, .int .u8 0, .int .u8 0, .int .u8 0, .int .u8 0, .int .u8 0, .int .u8 0, .int .u8 0, .int .i64 0, .int .u8 0, .int .u8 0, .int .u8 0, .int .u8 0, .int .u8 0, .int .u8 0, .int .u8 0, .int .u8 0, .slice none 0 0, .slice none 0 0] 35) = w' := ⟨_, rfl⟩
                have hbn : Below wspqy.heap.size wspqy wspqyx := hwspqyx ▸ below_new wspqy _
                have HGxspqyx : Hid (Bk wspqyx gx 35 zTh) := by show Bk _ _ _ _; rw [← hwspqyx]; exact Bk.at_ wspqy _ _ hgx rfl
                have HLx : Hid (z0 ≤ gx) := by show _ ≤ _; rw [← hgx]; exact HCBspqy.out.sz
                have HNE : Hid (gx ≠ gy) := by show _ ≠ _; have := HGyspqy.out.lt; omega
                rw [hgx, hwspqyx]
                clear hgx hwspqyx
                have HXspqyx := Lib.hid (HXspqy.out.later hbn)
                have HYspqyx := Lib.hid (HYspqy.out.later hbn)
                have HGyspqyx := Lib.hid (HGyspqy.out.later hbn)
                have HCBspqyx := Lib.hid (HCBspqy.out.later hbn)
                clear hbn
                refine hK.out _ _ ⟨HCBspqyx.out.b1, HCBspqyx.out.b2⟩ (fun hHeld => ?_)
                clear hK K
                try simp only [Act.put, List.setIfInBounds_toArray, List.set_cons_zero, List.set_cons_succ, List.getElem_toArray, List.getElem_cons_zero, List.getElem_cons_succ]
                refine wpAnyH_ready (rs := [8]) (by kernel_rfl) (by simp) ?_
                refine AllReadyH.cons rfl (fun K hK => ?_) AllReadyH.nil
                rw [if_pos (by rfl)]
                refine wp_store_part _ _ _ rfl gx 0 _ (cx) rfl rfl rfl _ ([]) (zTh) ([]) (by simpa using HGxspqyx.out) rfl (by rw [HXspqyx.out.len]; rfl) (HXspqyx.out.info) HXspqyx.out.one ?_
                intro wy hp
                refine hK.out _ _ ⟨(HCBspqyx.out.put hp HGxspqyx.out HLx.out).b1, (HCBspqyx.out.put hp HGxspqyx.out HLx.out).b2⟩ (fun hHeld => ?_)
                clear hK K
                try simp only [Act.put, List.setIfInBounds_toArray, List.set_cons_zero, List.set_cons_succ, List.getElem_toArray, List.getElem_cons_zero, List.getElem_cons_succ]
                have HCBy := Lib.hid (HCBspqyx.out.put hp HGxspqyx.out HLx.out); have KX1 : Hid (Bk wy gx 35 cx) := by show Bk _ _ _ _; have := hp.bk; simpa using this
                have KGy : Hid (Bk wy gy 35 zTh) := HGyspqyx.out.grown hp.only (by intro h; injection h with h; exact HNE.out h.symm)
                have HXy := Lib.hid (HXspqyx.out.grown hp.only HGxspqyx.out (by decide)); have HYy := Lib.hid (HYspqyx.out.grown hp.only HGxspqyx.out (by decide))
                clear hp
                refine wpAnyH_ready (rs := [9]) (by kernel_rfl) (by simp) ?_
                refine AllReadyH.cons rfl (fun K hK => ?_) AllReadyH.nil
                rw [if_pos (by rfl)]
                refine wp_store_part _ _ _ rfl gy 0 _ (cy) rfl rfl rfl _ ([]) (zTh) ([]) (by simpa using KGy.out) rfl (by rw [HYy.out.len]; rfl) (HYy.out.info) HYy.out.one ?_
                intro wz hp2
                refine hK.out _ _ ⟨(HCBy.out.put hp2 KGy.out HLy.out).b1, (HCBy.out.put hp2 KGy.out HLy.out).b2⟩ (fun hHeld => ?_)
                clear hK K
                try simp only [Act.put, List.setIfInBounds_toArray, List.set_cons_zero, List.set_cons_succ, List.getElem_toArray, List.getElem_cons_zero, List.getElem_cons_succ]
                refine wpAnyH_done (by kernel_rfl) ?_ _
                have KX : Hid (Bk wz gx 35 cx) := KX1.out.grown hp2.only (by intro h; injection h with h; exact HNE.out h)
                have KY : Hid (Bk wz gy 35 cy) := by show Bk _ _ _ _; have := hp2.bk; simpa using this
                have TX := Lib.hid (HXy.out.grown hp2.only KGy.out (by decide)); have TY := Lib.hid (HYy.out.grown hp2.only KGy.out (by decide)); have KC := Lib.hid (HCBy.out.put hp2 KGy.out HLy.out)
                clear hHeld hp2
                go_wp2_with fail
                go_meet
                exact ⟨gx, gy, cx, cy, rfl, rfl, KC, KX, KY, TX, TY⟩
              exact AllReadyH.nil
            exact AllReadyH.nil
          refine AllReadyH.cons rfl (fun K hK => ?_) ?_
          ·
            go_simp
            obtain ⟨gx, hgx⟩ : ∃ g, wsp.heap.size = g := ⟨_, rfl⟩
            obtain ⟨wspx, hwspx⟩ : ∃ w', wsp.alloc (.cells #[.int .i64 0, .int .u8 0, .int .u8 0, .int .u8 0, .int .u8 0, .int .u8 0, .int .u8 0, .int .u8 0, .int .u8 0, .int .i64 0, .slice none 0 0, .int .u8 0, .int .u8 0, .int .u8 0, .int .u8 0, .int .u8 0, .int .u8 0, .int .u8 0, .int .u8 0, .int .i64 0, .int .u8 0, .int .u8 0, .int .u8 0, .int .u8 0, .int .u8 0, .int .u8 0, .int .u8 0, .int .u8 0, .slice none 0 0, .slice none 0 0] 35) = w' := ⟨_, rfl⟩
            have hbn : Below wsp.heap.size wsp wspx := hwspx ▸ below_new wsp _
            have HGxspx : Hid (Bk wspx gx 35 zTh) := by show Bk _ _ _ _; rw [← hwspx]; exact Bk.at_ wsp _ _ hgx rfl
            have HLx : Hid (z0 ≤ gx) := by show _ ≤ _; rw [← hgx]; exact HCBsp.out.sz
            rw [hgx, hwspx]
            clear hgx hwspx
            have HXspx := Lib.hid (HXsp.out.later hbn)
            have HCBspx := Lib.hid (HCBsp.out.later hbn)
            clear hbn
            refine hK.out _ _ ⟨HCBspx.out.b1, HCBspx.out.b2⟩ (fun hHeld => ?_)
            clear hK K
            try simp only [Act.put, List.setIfInBounds_toArray, List.set_cons_zero, List.set_cons_succ, List.getElem_toArray, List.getElem_cons_zero, List.getElem_cons_succ]
            refine wpAnyH_ready (rs := [5, 7]) (by kernel_rfl) (by simp) ?_
            refine AllReadyH.cons rfl (fun K hK => ?_) ?_
            ·
              go_simp
              go_at_call 38
              refine (dsign_any w wspx lo g (bookS es (deE o)) HCBspx.out.fi.bk HEL1.out HCBspx.out.fi.lh HCBspx.out.fi.hb HCBspx.out.fi.wl t A2 N2 C2 HDT.out).mono ?_
              rintro e wspxq ⟨⟨cy, rfl, hth⟩, hbk, hb, hk⟩
              have HYspxq := Lib.hid hth; have HCBspxq := Lib.hid (HCBspx.out.sign hk hb hbk)
              have HXspxq := Lib.hid (HXspx.out.keeps hk)
              have HGxspxq := Lib.hid (HGxspx.out.keeps hk (by decide) (by decide))
              clear hth hbk hb hk
              refine hK.out _ _ ⟨HCBspxq.out.b1, HCBspxq.out.b2⟩ (fun hHeld => ?_)
              clear hK K
              try simp only [Act.put, List.setIfInBounds_toArray, List.set_cons_zero, List.set_cons_succ, List.getElem_toArray, List.getElem_cons_zero, List.getElem_cons_succ]
              refine wpAnyH_ready (rs := [7]) (by kernel_rfl) (by simp) ?_
              refine AllReadyH.cons rfl (fun K hK => ?_) ?_
              ·
                go_simp
                obtain ⟨gy, hgy⟩ : ∃ g, wspxq.heap.size = g := ⟨_, rfl⟩
                obtain ⟨wspxqy, hwspxqy⟩ : ∃ w', wspxq.alloc (.cells #[.int .i64 0, .int .u8 0, .int .u8 0, .int .u8 0, .int .u8 0, .int .u8 0, .int .u8 0, .int .u8 0, .int .u8 0, .int .i64 0, .slice none 0 0, .int .u8 0, .int .u8 0, .int .u8 0, .int .u8 0, .int .u8 0, .int .u8 0, .int .u8 0, .int .u8 0, .int .i64 0, .int .u8 0, .int .u8 0, .int .u8 0, .int .u8 0, .int .u8 0, .int .u8 0, .int .u8 0, .int .u8 0, .slice none 0 0, .slice none 0 0] 35) = w' := ⟨_, rfl⟩
                have hbn : Below wspxq.heap.size wspxq wspxqy := hwspxqy ▸ below_new wspxq _
                have HGyspxqy : Hid (Bk wspxqy gy 35 zTh) := by show Bk _ _ _ _; rw [← hwspxqy]; exact Bk.at_ wspxq _ _ hgy rfl
                have HLy : Hid (z0 ≤ gy) := by show _ ≤ _; rw [← hgy]; exact HCBspxq.out.sz
                have HNE : Hid (gx ≠ gy) := by show _ ≠ _; have := HGxspxq.out.lt; omega
                rw [hgy, hwspxqy]
                clear hgy hwspxqy
                have HXspxqy := Lib.hid (HXspxq.out.later hbn)
                have HGxspxqy := Lib.hid (HGxspxq.out.later hbn)
                have HYspxqy := Lib.hid (HYspxq.out.later hbn)
                have HCBspxqy := Lib.hid (HCBspxq.out.later hbn)
                clear hbn
                refine hK.out _ _ ⟨HCBspxqy.out.b1, HCBspxqy.out.b2⟩ (fun hHeld => ?_)
                clear hK K
                try simp only [Act.put, List.setIfInBounds_toArray, List.set_cons_zero, List.set_cons_succ, List.getElem_toArray, List.getElem_cons_zero, List.getElem_cons_succ]
                refine wpAnyH_ready (rs := [8]) (by kernel_rfl) (by simp) ?_
                refine AllReadyH.cons rfl (fun K hK => ?_) AllReadyH.nil
                rw [if_pos (by rfl)]
                refine wp_store_part _ _ _ rfl gx 0 _ (cx) rfl rfl rfl _ ([]) (zTh) ([]) (by simpa using HGxspxqy.out) rfl (by rw [HXspxqy.out.len]; rfl) (HXspxqy.out.info) HXspxqy.out.one ?_
                intro wy hp
                refine hK.out _ _ ⟨(HCBspxqy.out.put hp HGxspxqy.out HLx.out).b1, (HCBspxqy.out.put hp HGxspxqy.out HLx.out).b2⟩ (fun hHeld => ?_)
                clear hK K
                try simp only [Act.put, List.setIfInBounds_toArray, List.set_cons_zero, List.set_cons_succ, List.getElem_toArray, List.getElem_cons_zero, List.getElem_cons_succ]
                have HCBy := Lib.hid (HCBspxqy.out.put hp HGxspxqy.out HLx.out); have KX1 : Hid (Bk wy gx 35 cx) := by show Bk _ _ _ _; have := hp.bk; simpa using this
                have KGy : Hid (Bk wy gy 35 zTh) := HGyspxqy.out.grown hp.only (by intro h; injection h with h; exact HNE.out h.symm)
                have HXy := Lib.hid (HXspxqy.out.grown hp.only HGxspxqy.out (by decide)); have HYy := Lib.hid (HYspxqy.out.grown hp.only HGxspxqy.out (by decide))
                clear hp
                refine wpAnyH_ready (rs := [9]) (by kernel_rfl) (by simp) ?_
                refine AllReadyH.cons rfl (fun K hK => ?_) AllReadyH.nil
                rw [if_pos (by rfl)]
                refine wp_store_part _ _ _ rfl gy 0 _ (cy) rfl rfl rfl _ ([]) (zTh) ([]) (by simpa using KGy.out) rfl (by rw [HYy.out.len]; rfl) (HYy.out.info) HYy.out.one ?_
                intro wz hp2
                refine hK.out _ _ ⟨(HCBy.out.put hp2 KGy.out HLy.out).b1, (HCBy.out.put hp2 KGy.out HLy.out).b2⟩ (fun hHeld => ?_)
                clear hK K
                try simp only [Act.put, List.setIfInBounds_toArray, List.set_cons_zero, List.set_cons_succ, List.getElem_toArray, List.getElem_cons_zero, List.getElem_cons_succ]
                refine wpAnyH_done (by kernel_rfl) ?_ _
                have KX : Hid (Bk wz gx 35 cx) := KX1.out.grown hp2.only (by intro h; injection h with h; exact HNE.out h)
                have KY : Hid (Bk wz gy 35 cy) := by show Bk _ _ _ _; have := hp2.bk; simpa using this
                have TX := Lib.hid (HXy.out.grown hp2.only KGy.out (by decide)); have TY := Lib.hid (HYy.out.grown hp2.only KGy.out (by decide)); have KC := Lib.hid (HCBy.out.put hp2 KGy.out HLy.out)
                clear hHeld hp2
                go_wp2_with fail
                go_meet
                exact ⟨gx, gy, cx, cy, rfl, rfl, KC, KX, KY, TX, TY⟩
              exact AllReadyH.nil
            refine AllReadyH.cons rfl (fun K hK => ?_) ?_
            ·
              go_simp
              obtain ⟨gy, hgy⟩ : ∃ g, wspx.heap.size = g := ⟨_, rfl⟩
              obtain ⟨wspxy, hwspxy⟩ : ∃ w', wspx.alloc (.cells #[.int .i64 0, .int .u8 0, .int .u8 0, .int .u8 0, .int .u8 0, .int .u8 0, .int .u8 0, .int .u8 0, .int .u8 0, .int .i64 0, .slice none 0 0, .int .u8 0, .int .u8 0, .int .u8 0, .int .u8 0, .int .u8 0, .int .u8 0, .int .u8 0, .int .u8 0, .int .i64 0, .int .u8 0, .int .u8 0, .int .u8 0, .int .u8 0, .int .u8 0, .int .u8 0, .int .u8 0, .int .u8 0, .slice none 0 0, .slice none 0 0] 35) = w' := ⟨_, rfl⟩
              have hbn : Below wspx.heap.size wspx wspxy := hwspxy ▸ below_new wspx _
              have HGyspxy : Hid (Bk wspxy gy 35 zTh) := by show Bk _ _ _ _; rw [← hwspxy]; exact Bk.at_ wspx _ _ hgy rfl
              have HLy : Hid (z0 ≤ gy) := by show _ ≤ _; rw [← hgy]; exact HCBspx.out.sz
              have HNE : Hid (gx ≠ gy) := by show _ ≠ _; have := HGxspx.out.lt; omega
              rw [hgy, hwspxy]
              clear hgy hwspxy
              have HXspxy := Lib.hid (HXspx.out.later hbn)
              have HGxspxy := Lib.hid (HGxspx.out.later hbn)
              have HCBspxy := Lib.hid (HCBspx.out.later hbn)
              clear hbn
              refine hK.out _ _ ⟨HCBspxy.out.b1, HCBspxy.out.b2⟩ (fun hHeld => ?_)
              clear hK K
              try simp only [Act.put, List.setIfInBounds_toArray, List.set_cons_zero, List.set_cons_succ, List.getElem_toArray, List.getElem_cons_zero, List.getElem_cons_succ]
              refine wpAnyH_ready (rs := [5]) (by kernel_rfl) (by simp) ?_
              refine AllReadyH.cons rfl (fun K hK => ?_) ?_
              ·
                go_simp
                go_at_call 38
                refine (dsign_any w wspxy lo g (bookS es (deE o)) HCBspxy.out.fi.bk HEL1.out HCBspxy.out.fi.lh HCBspxy.out.fi.hb HCBspxy.out.fi.wl t A2 N2 C2 HDT.out).mono ?_
                rintro e wspxyq ⟨⟨cy, rfl, hth⟩, hbk, hb, hk⟩
                have HYspxyq := Lib.hid hth; have HCBspxyq := Lib.hid (HCBspxy.out.sign hk hb hbk)
                have HXspxyq := Lib.hid (HXspxy.out.keeps hk)
                have HGxspxyq := Lib.hid (HGxspxy.out.keeps hk (by decide) (by decide))
                have HGyspxyq := Lib.hid (HGyspxy.out.keeps hk (by decide) (by decide))
                clear hth hbk hb hk
                refine hK.out _ _ ⟨HCBspxyq.out.b1, HCBspxyq.out.b2⟩ (fun hHeld => ?_)
                clear hK K
                try simp only [Act.put, List.setIfInBounds_toArray, List.set_cons_zero, List.set_cons_succ, List.getElem_toArray, List.getElem_cons_zero, List.getElem_cons_succ]
                refine wpAnyH_ready (rs := [8]) (by kernel_rfl) (by simp) ?_
                refine AllReadyH.cons rfl (fun K hK => ?_) AllReadyH.nil
                rw [if_pos (by rfl)]
                refine wp_store_part _ _ _ rfl gx 0 _ (cx) rfl rfl rfl _ ([]) (zTh) ([]) (by simpa using HGxspxyq.out) rfl (by rw [HXspxyq.out.len]; rfl) (HXspxyq.out.info) HXspxyq.out.one ?_
                intro wy hp
                refine hK.out _ _ ⟨(HCBspxyq.out.put hp HGxspxyq.out HLx.out).b1, (HCBspxyq.out.put hp HGxspxyq.out HLx.out).b2⟩ (fun hHeld => ?_)
                clear hK K
                try simp only [Act.put, List.setIfInBounds_toArray, List.set_cons_zero, List.set_cons_succ, List.getElem_toArray, List.getElem_cons_zero, List.getElem_cons_succ]
                have HCBy := Lib.hid (HCBspxyq.out.put hp HGxspxyq.out HLx.out); have KX1 : Hid (Bk wy gx 35 cx) := by show Bk _ _ _ _; have := hp.bk; simpa using this
                have KGy : Hid (Bk wy gy 35 zTh) := HGyspxyq.out.grown hp.only (by intro h; injection h with h; exact HNE.out h.symm)
                have HXy := Lib.hid (HXspxyq.out.grown hp.only HGxspxyq.out (by decide)); have HYy := Lib.hid (HYspxyq.out.grown hp.only HGxspxyq.out (by decide))
                clear hp
                refine wpAnyH_ready (rs := [9]) (by kernel_rfl) (by simp) ?_
                refine AllReadyH.cons rfl (fun K hK => ?_) AllReadyH.nil
                rw [if_pos (by rfl)]
                refine wp_store_part _ _ _ rfl gy 0 _ (cy) rfl rfl rfl _ ([]) (zTh) ([]) (by simpa using KGy.out) rfl (by rw [HYy.out.len]; rfl) (HYy.out.info) HYy.out.one ?_
                intro wz hp2
                refine hK.out _ _ ⟨(HCBy.out.put hp2 KGy.out HLy.out).b1, (HCBy.out.put hp2 KGy.out HLy.out).b2⟩ (fun hHeld => ?_)
                clear hK K
                try simp only [Act.put, List.setIfInBounds_toArray, List.set_cons_zero, List.set_cons_succ, List.getElem_toArray, List.getElem_cons_zero, List.getElem_cons_succ]
                refine wpAnyH_done (by kernel_rfl) ?_ _
                have KX : Hid (Bk wz gx 35 cx) := KX1.out.grown hp2.only (by intro h; injection h with h; exact HNE.out h)
                have KY : Hid (Bk wz gy 35 cy) := by show Bk _ _ _ _; have := hp2.bk; simpa using this
                have TX := Lib.hid (HXy.out.grown hp2.only KGy.out (by decide)); have TY := Lib.hid (HYy.out.grown hp2.only KGy.out (by decide)); have KC := Lib.hid (HCBy.out.put hp2 KGy.out HLy.out)
                clear hHeld hp2
                go_wp2_with fail
                go_meet
                exact ⟨gx, gy, cx, cy, rfl, rfl, KC, KX, KY, TX, TY⟩
              exact AllReadyH.nil
            exact AllReadyH.nil
          refine AllReadyH.cons rfl (fun K hK => ?_) ?_
          ·
            go_simp
            obtain ⟨gy, hgy⟩ : ∃ g, wsp.heap.size = g := ⟨_, rfl⟩
            obtain ⟨wspy, hwspy⟩ : ∃ w', wsp.alloc (.cells #[.int .i64 0, .int .u8 0, .int .u8 0, .int .u8 0, .int .u8 0, .int .u8 0, .int .u8 0, .int .u8 0, .int .u8 0, .int .i64 0, .slice none 0 0, .int .u8 0, .int .u8 0, .int .u8 0, .int .u8 0, .int .u8 0, .int .u8 0, .int .u8 0, .int .u8 0, .int .i64 0, .int .u8 0, .int .u8 0, .int .u8 0, .int .u8 0, .int .u8 0, .int .u8 0, .int .u8 0, .int .u8 0, .slice none 0 0, .slice none 0 0] 35) = w' := ⟨_, rfl⟩
            have hbn : Below wsp.heap.size wsp wspy := hwspy ▸ below_new wsp _
            have HGyspy : Hid (Bk wspy gy 35 zTh) := by show Bk _ _ _ _; rw [← hwspy]; exact Bk.at_ wsp _ _ hgy rfl
            have HLy : Hid (z0 ≤ gy) := by show _ ≤ _; rw [← hgy]; exact HCBsp.out.sz
            rw [hgy, hwspy]
            clear hgy hwspy
            have HXspy := Lib.hid (HXsp.out.later hbn)
            have HCBspy := Lib.hid (HCBsp.out.later hbn)
            clear hbn
            refine hK.out _ _ ⟨HCBspy.out.b1, HCBspy.out.b2⟩ (fun hHeld => ?_)
            clear hK K
            try simp only [Act.put, List.setIfInBounds_toArray, List.set_cons_zero, List.set_cons_succ, List.getElem_toArray, List.getElem_cons_zero, List.getElem_cons_succ]
            refine wpAnyH_ready (rs := [5, 6]) (by kernel_rfl) (by simp) ?_
            refine AllReadyH.cons rfl (fun K hK => ?_) ?_
            ·
              go_simp
              go_at_call 38
              refine (dsign_any w wspy lo g (bookS es (deE o)) HCBspy.out.fi.bk HEL1.out HCBspy.out.fi.lh HCBspy.out.fi.hb HCBspy.out.fi.wl t A2 N2 C2 HDT.out).mono ?_
              rintro e wspyq ⟨⟨cy, rfl, hth⟩, hbk, hb, hk⟩
              have HYspyq := Lib.hid hth; have HCBspyq := Lib.hid (HCBspy.out.sign hk hb hbk)
              have HXspyq := Lib.hid (HXspy.out.keeps hk)
              have HGyspyq := Lib.hid (HGyspy.out.keeps hk (by decide) (by decide))
              clear hth hbk hb hk
              refine hK.out _ _ ⟨HCBspyq.out.b1, HCBspyq.out.b2⟩ (fun hHeld => ?_)
              clear hK K
              try simp only [Act.put, List.setIfInBounds_toArray, List.set_cons_zero, List.set_cons_succ, List.getElem_toArray, List.getElem_cons_zero, List.getElem_cons_succ]
              refine wpAnyH_ready (rs := [6]) (by kernel_rfl) (by simp) ?_
              refine AllReadyH.cons rfl (fun K hK => ?_) ?_
              ·
                go_simp
                obtain ⟨gx, hgx⟩ : ∃ g, wspyq.heap.size = g := ⟨_, rfl⟩
                obtain ⟨wspyqx, hwspyqx⟩ : ∃ w', wspyq.alloc (.cells #[.int .i64 0, .int .u8 0, .int .u8 0, .int .u8 0, .int .u8 0, .int .u8 0, .int .u8 0, .int .u8 0, .int .u8 0, .int .i64 0, .slice none 0 0, .int .u8 0, .int .u8 0, .int .u8 0, .int .u8 0, .int .u8 0, .int .u8 0, .int .u8 0, .int .u8 0, .int .i64 0, .int .u8 0, .int .u8 0, .int .u8 0, .int .u8 0, .int .u8 0, .int .u8 0, .int .u8 0, .int .u8 0, .slice none 0 0, .slice none 0 0] 35) = w' := ⟨_, rfl⟩
                have hbn : Below wspyq.heap.size wspyq wspyqx := hwspyqx ▸ below_new wspyq _
                have HGxspyqx : Hid (Bk wspyqx gx 35 zTh) := by show Bk _ _ _ _; rw [← hwspyqx]; exact Bk.at_ wspyq _ _ hgx rfl
                have HLx : Hid (z0 ≤ gx) := by show _ ≤ _; rw [← hgx]; exact HCBspyq.out.sz
                have HNE : Hid (gx ≠ gy) := by show _ ≠ _; have := HGyspyq.out.lt; omega
                rw [hgx, hwspyqx]
                clear hgx hwspyqx
                have HXspyqx := Lib.hid (HXspyq.out.later hbn)
                have HGyspyqx := Lib.hid (HGyspyq.out.later hbn)
                have HYspyqx := Lib.hid (HYspyq.out.later hbn)
                have HCBspyqx := Lib.hid (HCBspyq.out.later hbn)
                clear hbn
                refine hK.out _ _ ⟨HCBspyqx.out.b1, HCBspyqx.out.b2⟩ (fun hHeld => ?_)
                clear hK K
                try simp only [Act.put, List.setIfInBounds_toArray, List.set_cons_zero, List.set_cons_succ, List.getElem_toArray, List.getElem_cons_zero, List.getElem_cons_succ]
                refine wpAnyH_ready (rs := [8]) (by kernel_rfl) (by simp) ?_
                refine AllReadyH.cons rfl (fun K hK => ?_) AllReadyH.nil
                rw [if_pos (by rfl)]
                refine wp_store_part _ _ _ rfl gx 0 _ (cx) rfl rfl rfl _ ([]) (zTh) ([]) (by simpa using HGxspyqx.out) rfl (by rw [HXspyqx.out.len]; rfl) (HXspyqx.out.info) HXspyqx.out.one ?_
                intro wy hp
                refine hK.out _ _ ⟨(HCBspyqx.out.put hp HGxspyqx.out HLx.out).b1, (HCBspyqx.out.put hp HGxspyqx.out HLx.out).b2⟩ (fun hHeld => ?_)
                clear hK K
                try simp only [Act.put, List.setIfInBounds_toArray, List.set_cons_zero, List.set_cons_succ, List.getElem_toArray, List.getElem_cons_zero, List.getElem_cons_succ]
                have HCBy := Lib.hid (HCBspyqx.out.put hp HGxspyqx.out HLx.out); have KX1 : Hid (Bk wy gx 35 cx) := by show Bk _ _ _ _; have := hp.bk; simpa using this
                have KGy : Hid (Bk wy gy 35 zTh) := HGyspyqx.out.grown hp.only (by intro h; injection h with h; exact HNE.out h.symm)
                have HXy := Lib.hid (HXspyqx.out.grown hp.only HGxspyqx.out (by decide)); have HYy := Lib.hid (HYspyqx.out.grown hp.only HGxspyqx.out (by decide))
                clear hp
                refine wpAnyH_ready (rs := [9]) (by kernel_rfl) (by simp) ?_
                refine AllReadyH.cons rfl (fun K hK => ?_) AllReadyH.nil
                rw [if_pos (by rfl)]
                refine wp_store_part _ _ _ rfl gy 0 _ (cy) rfl rfl rfl _ ([]) (zTh) ([]) (by simpa using KGy.out) rfl (by rw [HYy.out.len]; rfl) (HYy.out.info) HYy.out.one ?_
                intro wz hp2
                refine hK.out _ _ ⟨(HCBy.out.put hp2 KGy.out HLy.out).b1, (HCBy.out.put hp2 KGy.out HLy.out).b2⟩ (fun hHeld => ?_)
                clear hK K
                try simp only [Act.put, List.setIfInBounds_toArray, List.set_cons_zero, List.set_cons_succ, List.getElem_toArray, List.getElem_cons_zero, List.getElem_cons_succ]
                refine wpAnyH_done (by kernel_rfl) ?_ _
                have KX : Hid (Bk wz gx 35 cx) := KX1.out.grown hp2.only (by intro h; injection h with h; exact HNE.out h)
                have KY : Hid (Bk wz gy 35 cy) := by show Bk _ _ _ _; have := hp2.bk; simpa using this
                have TX := Lib.hid (HXy.out.grown hp2.only KGy.out (by decide)); have TY := Lib.hid (HYy.out.grown hp2.only KGy.out (by decide)); have KC := Lib.hid (HCBy.out.put hp2 KGy.out HLy.out)
                clear hHeld hp2
                go_wp2_with fail
                go_meet
                exact ⟨gx, gy, cx, cy, rfl, rfl, KC, KX, KY, TX, TY⟩
              exact AllReadyH.nil
            refine AllReadyH.cons rfl (fun K hK => ?_) ?_
            ·
              go_simp
              obtain ⟨gx, hgx⟩ : ∃ g, wspy.heap.size = g := ⟨_, rfl⟩
              obtain ⟨wspyx, hwspyx⟩ : ∃ w', wspy.alloc (.cells #[.int .i64 0, .int .u8 0, .int .u8 0, .int .u8 0, .int .u8 0, .int .u8 0, .int .u8 0, .int .u8 0, .int .u8 0, .int .i64 0, .slice none 0 0, .int .u8 0, .int .u8 0, .int .u8 0, .int .u8 0, .int .u8 0, .int .u8 0, .int .u8 0, .int .u8 0, .int .i64 0, .int .u8 0, .int .u8 0, .int .u8 0, .int .u8 0, .int .u8 0, .int .u8 0, .int .u8 0, .int .u8 0, .slice none 0 0, .slice none 0 0] 35) = w' := ⟨_, rfl⟩
              have hbn : Below wspy.heap.size wspy wspyx := hwspyx ▸ below_new wspy _
              have HGxspyx : Hid (Bk wspyx gx 35 zTh) := by show Bk _ _ _ _; rw [← hwspyx]; exact Bk.at_ wspy _ _ hgx rfl
              have HLx : Hid (z0 ≤ gx) := by show _ ≤ _; rw [← hgx]; exact HCBspy.out.sz
              have HNE : Hid (gx ≠ gy) := by show _ ≠ _; have := HGyspy.out.lt; omega
              rw [hgx, hwspyx]
              clear hgx hwspyx
              have HXspyx := Lib.hid (HXspy.out.later hbn)
              have HGyspyx := Lib.hid (HGyspy.out.later hbn)
              have HCBspyx := Lib.hid (HCBspy.out.later hbn)
              clear hbn
              refine hK.out _ _ ⟨HCBspyx.out.b1, HCBspyx.out.b2⟩ (fun hHeld => ?_)
              clear hK K
              try simp only [Act.put, List.setIfInBounds_toArray, List.set_cons_zero, List.set_cons_succ, List.getElem_toArray, List.getElem_cons_zero, List.getElem_cons_succ]
              refine wpAnyH_ready (rs := [5]) (by kernel_rfl) (by simp) ?_
              refine AllReadyH.cons rfl (fun K hK => ?_) ?_
              ·
                go_simp
                go_at_call 38
                refine (dsign_any w wspyx lo g (bookS es (deE o)) HCBspyx.out.fi.bk HEL1.out HCBspyx.out.fi.lh HCBspyx.out.fi.hb HCBspyx.out.fi.wl t A2 N2 C2 HDT.out).mono ?_
                rintro e wspyxq ⟨⟨cy, rfl, hth⟩, hbk, hb, hk⟩
                have HYspyxq := Lib.hid hth; have HCBspyxq := Lib.hid (HCBspyx.out.sign hk hb hbk)
                have HXspyxq := Lib.hid (HXspyx.out.keeps hk)
                have HGyspyxq := Lib.hid (HGyspyx.out.keeps hk (by decide) (by decide))
                have HGxspyxq := Lib.hid (HGxspyx.out.keeps hk (by decide) (by decide))
                clear hth hbk hb hk
                refine hK.out _ _ ⟨HCBspyxq.out.b1, HCBspyxq.out.b2⟩ (fun hHeld => ?_)
                clear hK K
                try simp only [Act.put, List.setIfInBounds_toArray, List.set_cons_zero, List.set_cons_succ, List.getElem_toArray, List.getElem_cons_zero, List.getElem_cons_succ]
                refine wpAnyH_ready (rs := [8]) (by kernel_rfl) (by simp) ?_
                refine AllReadyH.cons rfl (fun K hK => ?_) AllReadyH.nil
                rw [if_pos (by rfl)]
                refine wp_store_part _ _ _ rfl gx 0 _ (cx) rfl rfl rfl _ ([]) (zTh) ([]) (by simpa using HGxspyxq.out) rfl (by rw [HXspyxq.out.len]; rfl) (HXspyxq.out.info) HXspyxq.out.one ?_
                intro wy hp
                refine hK.out _ _ ⟨(HCBspyxq.out.put hp HGxspyxq.out HLx.out).b1, (HCBspyxq.out.put hp HGxspyxq.out HLx.out).b2⟩ (fun hHeld => ?_)
                clear hK K
                try simp only [Act.put, List.setIfInBounds_toArray, List.set_cons_zero, List.set_cons_succ, List.getElem_toArray, List.getElem_cons_zero, List.getElem_cons_succ]
                have HCBy := Lib.hid (HCBspyxq.out.put hp HGxspyxq.out HLx.out); have KX1 : Hid (Bk wy gx 35 cx) := by show Bk _ _ _ _; have := hp.bk; simpa using this
                have KGy : Hid (Bk wy gy 35 zTh) := HGyspyxq.out.grown hp.only (by intro h; injection h with h; exact HNE.out h.symm)
                have HXy := Lib.hid (HXspyxq.out.grown hp.only HGxspyxq.out (by decide)); have HYy := Lib.hid (HYspyxq.out.grown hp.only HGxspyxq.out (by decide))
                clear hp
                refine wpAnyH_ready (rs := [9]) (by kernel_rfl) (by simp) ?_
                refine AllReadyH.cons rfl (fun K hK => ?_) AllReadyH.nil
                rw [if_pos (by rfl)]
                refine wp_store_part _ _ _ rfl gy 0 _ (cy) rfl rfl rfl _ ([]) (zTh) ([]) (by simpa using KGy.out) rfl (by rw [HYy.out.len]; rfl) (HYy.out.info) HYy.out.one ?_
                intro wz hp2
                refine hK.out _ _ ⟨(HCBy.out.put hp2 KGy.out HLy.out).b1, (HCBy.out.put hp2 KGy.out HLy.out).b2⟩ (fun hHeld => ?_)
                clear hK K
                try simp only [Act.put, List.setIfInBounds_toArray, List.set_cons_zero, List.set_cons_succ, List.getElem_toArray, List.getElem_cons_zero, List.getElem_cons_succ]
                refine wpAnyH_done (by kernel_rfl) ?_ _
                have KX : Hid (Bk wz gx 35 cx) := KX1.out.grown hp2.only (by intro h; injection h with h; exact HNE.out h)
                have KY : Hid (Bk wz gy 35 cy) := by show Bk _ _ _ _; have := hp2.bk; simpa using this
                have TX := Lib.hid (HXy.out.grown hp2.only KGy.out (by decide)); have TY := Lib.hid (HYy.out.grown hp2.only KGy.out (by decide)); have KC := Lib.hid (HCBy.out.put hp2 KGy.out HLy.out)
                clear hHeld hp2
                go_wp2_with fail
                go_meet
                exact ⟨gx, gy, cx, cy, rfl, rfl, KC, KX, KY, TX, TY⟩
              exact AllReadyH.nil
            exact AllReadyH.nil
          exact AllReadyH.nil
        refine AllReadyH.cons rfl (fun K hK => ?_) ?_
        ·
          go_simp
          obtain ⟨gx, hgx⟩ : ∃ g, ws.heap.size = g := ⟨_, rfl⟩
          obtain ⟨wsx, hwsx⟩ : ∃ w', ws.alloc (.cells #[.int .i64 0, .int .u8 0, .int .u8 0, .int .u8 0, .int .u8 0, .int .u8 0, .int .u8 0, .int .u8 0, .int .u8 0, .int .i64 0, .slice none 0 0, .int .u8 0, .int .u8 0, .int .u8 0, .int .u8 0, .int .u8 0, .int .u8 0, .int .u8 0, .int .u8 0, .int .i64 0, .int .u8 0, .int .u8 0, .int .u8 0, .int .u8 0, .int .u8 0, .int .u8 0, .int .u8 0, .int .u8 0, .slice none 0 0, .slice none 0 0] 35) = w' := ⟨_, rfl⟩
          have hbn : Below ws.heap.size ws wsx := hwsx ▸ below_new ws _
          have HGxsx : Hid (Bk wsx gx 35 zTh) := by show Bk _ _ _ _; rw [← hwsx]; exact Bk.at_ ws _ _ hgx rfl
          have HLx : Hid (z0 ≤ gx) := by show _ ≤ _; rw [← hgx]; exact HCBs.out.sz
          rw [hgx, hwsx]
          clear hgx hwsx
          have HCBsx := Lib.hid (HCBs.out.later hbn)
          clear hbn
          refine hK.out _ _ ⟨HCBsx.out.b1, HCBsx.out.b2⟩ (fun hHeld => ?_)
          clear hK K
          try simp only [Act.put, List.setIfInBounds_toArray, List.set_cons_zero, List.set_cons_succ, List.getElem_toArray, List.getElem_cons_zero, List.getElem_cons_succ]
          refine wpAnyH_ready (rs := [2, 7]) (by kernel_rfl) (by simp) ?_
          refine AllReadyH.cons rfl (fun K hK => ?_) ?_
          ·
            go_simp
            go_at_call 38
            refine (dsign_any w wsx lo g es HCBsx.out.fi.bk HEL0.out HCBsx.out.fi.lh HCBsx.out.fi.hb HCBsx.out.fi.wl o A1 N1 C1 HDO.out).mono ?_
            rintro e wsxp ⟨⟨cx, rfl, hth⟩, hbk, hb, hk⟩
            have HXsxp := Lib.hid hth; have HCBsxp := Lib.hid (HCBsx.out.sign hk hb hbk)
            have HGxsxp := Lib.hid (HGxsx.out.keeps hk (by decide) (by decide))
            clear hth hbk hb hk
            refine hK.out _ _ ⟨HCBsxp.out.b1, HCBsxp.out.b2⟩ (fun hHeld => ?_)
            clear hK K
            try simp only [Act.put, List.setIfInBounds_toArray, List.set_cons_zero, List.set_cons_succ, List.getElem_toArray, List.getElem_cons_zero, List.getElem_cons_succ]
            refine wpAnyH_ready (rs := [5, 7]) (by kernel_rfl) (by simp) ?_
            refine AllReadyH.cons rfl (fun K hK => ?_) ?_
            ·
              go_simp
              go_at_call 38
              refine (dsign_any w wsxp lo g (bookS es (deE o)) HCBsxp.out.fi.bk HEL1.out HCBsxp.out.fi.lh HCBsxp.out.fi.hb HCBsxp.out.fi.wl t A2 N2 C2 HDT.out).mono ?_
              rintro e wsxpq ⟨⟨cy, rfl, hth⟩, hbk, hb, hk⟩
              have HYsxpq := Lib.hid hth; have HCBsxpq := Lib.hid (HCBsxp.out.sign hk hb hbk)
              have HGxsxpq := Lib.hid (HGxsxp.out.keeps hk (by decide) (by decide))
              have HXsxpq := Lib.hid (HXsxp.out.keeps hk)
              clear hth hbk hb hk
              refine hK.out _ _ ⟨HCBsxpq.out.b1, HCBsxpq.out.b2⟩ (fun hHeld => ?_)
              clear hK K
              try simp only [Act.put, List.setIfInBounds_toArray, List.set_cons_zero, List.set_cons_succ, List.getElem_toArray, List.getElem_cons_zero, List.getElem_cons_succ]
              refine wpAnyH_ready (rs := [7]) (by kernel_rfl) (by simp) ?_
              refine AllReadyH.cons rfl (fun K hK => ?_) ?_
              ·
                go_simp
                obtain ⟨gy, hgy⟩ : ∃ g, wsxpq.heap.size = g := ⟨_, rfl⟩
                obtain ⟨wsxpqy, hwsxpqy⟩ : ∃ w', wsxpq.alloc (.cells #[.int .i64 0, .int .u8 0, .int .u8 0, .int .u8 0, .int .u8 0, .int .u8 0, .int .u8 0, .int .u8 0, .int .u8 0, .int .i64 0, .slice none 0 0, .int .u8 0, .int .u8 0, .int .u8 0, .int .u8 0, .int .u8 0, .int .u8 0, .int .u8 0, .int .u8 0, .int .i64 0, .int .u8 0, .int .u8 0, .int .u8 0, .int .u8 0, .int .u8 0, .int .u8 0, .int .u8 0, .int .u8 0, .slice none 0 0, .slice none 0 0] 35) = w' := ⟨_, rfl⟩
                have hbn : Below wsxpq.heap.size wsxpq wsxpqy := hwsxpqy ▸ below_new wsxpq _
                have HGysxpqy : Hid (Bk wsxpqy gy 35 zTh) := by show Bk _ _ _ _; rw [← hwsxpqy]; exact Bk.at_ wsxpq _ _ hgy rfl
                have HLy : Hid (z0 ≤ gy) := by show _ ≤ _; rw [← hgy]; exact HCBsxpq.out.sz
                have HNE : Hid (gx ≠ gy) := by show _ ≠ _; have := HGxsxpq.out.lt; omega
                rw [hgy, hwsxpqy]
                clear hgy hwsxpqy
                have HGxsxpqy := Lib.hid (HGxsxpq.out.later hbn)
                have HXsxpqy := Lib.hid (HXsxpq.out.later hbn)
                have HYsxpqy := Lib.hid (HYsxpq.out.later hbn)
                have HCBsxpqy := Lib.hid (HCBsxpq.out.later hbn)
                clear hbn
                refine hK.out _ _ ⟨HCBsxpqy.out.b1, HCBsxpqy.out.b2⟩ (fun hHeld => ?_)
                clear hK K
                try simp only [Act.put, List.setIfInBounds_toArray, List.set_cons_zero, List.set_cons_succ, List.getElem_toArray, List.getElem_cons_zero, List.getElem_cons_succ]
                refine wpAnyH_ready (rs := [8]) (by kernel_rfl) (by simp) ?_
                refine AllReadyH.cons rfl (fun K hK => ?_) AllReadyH.nil
                rw [if_pos (by rfl)]
                refine wp_store_part _ _ _ rfl gx 0 _ (cx) rfl rfl rfl _ ([]) (zTh) ([]) (by simpa using HGxsxpqy.out) rfl (by rw [HXsxpqy.out.len]; rfl) (HXsxpqy.out.info) HXsxpqy.out.one ?_
                intro wy hp
                refine hK.out _ _ ⟨(HCBsxpqy.out.put hp HGxsxpqy.out HLx.out).b1, (HCBsxpqy.out.put hp HGxsxpqy.out HLx.out).b2⟩ (fun hHeld => ?_)
                clear hK K
                try simp only [Act.put, List.setIfInBounds_toArray, List.set_cons_zero, List.set_cons_succ, List.getElem_toArray, List.getElem_cons_zero, List.getElem_cons_succ]
                have HCBy := Lib.hid (HCBsxpqy.out.put hp HGxsxpqy.out HLx.out); have KX1 : Hid (Bk wy gx 35 cx) := by show Bk _ _ _ _; have := hp.bk; simpa using this
                have KGy : Hid (Bk wy gy 35 zTh) := HGysxpqy.out.grown hp.only (by intro h; injection h with h; exact HNE.out h.symm)
                have HXy := Lib.hid (HXsxpqy.out.grown hp.only HGxsxpqy.out (by decide)); have HYy := Lib.hid (HYsxpqy.out.grown hp.only HGxsxpqy.out (by decide))
                clear hp
                refine wpAnyH_ready (rs := [9]) (by kernel_rfl) (by simp) ?_
                refine AllReadyH.cons rfl (fun K hK => ?_) AllReadyH.nil
                rw [if_pos (by rfl)]
                refine wp_store_part _ _ _ rfl gy 0 _ (cy) rfl rfl rfl _ ([]) (zTh) ([]) (by simpa using KGy.out) rfl (by rw [HYy.out.len]; rfl) (HYy.out.info) HYy.out.one ?_
                intro wz hp2
                refine hK.out _ _ ⟨(HCBy.out.put hp2 KGy.out HLy.out).b1, (HCBy.out.put hp2 KGy.out HLy.out).b2⟩ (fun hHeld => ?_)
                clear hK K
                try simp only [Act.put, List.setIfInBounds_toArray, List.set_cons_zero, List.set_cons_succ, List.getElem_toArray, List.getElem_cons_zero, List.getElem_cons_succ]
                refine wpAnyH_done (by kernel_rfl) ?_ _
                have KX : Hid (Bk wz gx 35 cx) := KX1.out.grown hp2.only (by intro h; injection h with h; exact HNE.out h)
                have KY : Hid (Bk wz gy 35 cy) := by show Bk _ _ _ _; have := hp2.bk; simpa using this
                have TX := Lib.hid (HXy.out.grown hp2.only KGy.out (by decide)); have TY := Lib.hid (HYy.out.grown hp2.only KGy.out (by decide)); have KC := Lib.hid (HCBy.out.put hp2 KGy.out HLy.out)
                clear hHeld hp2
                go_wp2_with fail
                go_meet
                exact ⟨gx, gy, cx, cy, rfl, rfl, KC, KX, KY, TX, TY⟩
              exact AllReadyH.nil
            refine AllReadyH.cons rfl (fun K hK => ?_) ?_
            ·
              go_simp
              obtain ⟨gy, hgy⟩ : ∃ g, wsxp.heap.size = g := ⟨_, rfl⟩
              obtain ⟨wsxpy, hwsxpy⟩ : ∃ w', wsxp.alloc (.cells #[.int .i64 0, .int .u8 0, .int .u8 0, .int .u8 0, .int .u8 0, .int .u8 0, .int .u8 0, .int .u8 0, .int .u8 0, .int .i64 0, .slice none 0 0, .int .u8 0, .int .u8 0, .int .u8 0, .int .u8 0, .int .u8 0, .int .u8 0, .int .u8 0, .int .u8 0, .int .i64 0, .int .u8 0, .int .u8 0, .int .u8 0, .int .u8 0, .int .u8 0, .int .u8 0, .int .u8 0, .int .u8 0, .slice none 0 0, .slice none 0 0] 35) = w' := ⟨_, rfl⟩
              have hbn : Below wsxp.heap.size wsxp wsxpy := hwsxpy ▸ below_new wsxp _
              have HGysxpy : Hid (Bk wsxpy gy 35 zTh) := by show Bk _ _ _ _; rw [← hwsxpy]; exact Bk.at_ wsxp _ _ hgy rfl
              have HLy : Hid (z0 ≤ gy) := by show _ ≤ _; rw [← hgy]; exact HCBsxp.out.sz
              have HNE : Hid (gx ≠ gy) := by show _ ≠ _; have := HGxsxp.out.lt; omega
              rw [hgy, hwsxpy]
              clear hgy hwsxpy
              have HGxsxpy := Lib.hid (HGxsxp.out.later hbn)
              have HXsxpy := Lib.hid (HXsxp.out.later hbn)
              have HCBsxpy := Lib.hid (HCBsxp.out.later hbn)
              clear hbn
              refine hK.out _ _ ⟨HCBsxpy.out.b1, HCBsxpy.out.b2⟩ (fun hHeld => ?_)
              clear hK K
              try simp only [Act.put, List.setIfInBounds_toArray, List.set_cons_zero, List.set_cons_succ, List.getElem_toArray, List.getElem_cons_zero, List.getElem_cons_succ]
              refine wpAnyH_ready (rs := [5]) (by kernel_rfl) (by simp) ?_
              refine AllReadyH.cons rfl (fun K hK => ?_) ?_
              ·
                go_simp
                go_at_call 38
                refine (dsign_any w wsxpy lo g (bookS es (deE o)) HCBsxpy.out.fi.bk HEL1.out HCBsxpy.out.fi.lh HCBsxpy.out.fi.hb HCBsxpy.out.fi.wl t A2 N2 C2 HDT.out).mono ?_
                rintro e wsxpyq ⟨⟨cy, rfl, hth⟩, hbk, hb, hk⟩
                have HYsxpyq := Lib.hid hth; have HCBsxpyq := Lib.hid (HCBsxpy.out.sign hk hb hbk)
                have HGxsxpyq := Lib.hid (HGxsxpy.out.keeps hk (by decide) (by decide))
                have HXsxpyq := Lib.hid (HXsxpy.out.keeps hk)
                have HGysxpyq := Lib.hid (HGysxpy.out.keeps hk (by decide) (by decide))
                clear hth hbk hb hk
                refine hK.out _ _ ⟨HCBsxpyq.out.b1, HCBsxpyq.out.b2⟩ (fun hHeld => ?_)
                clear hK K
                try simp only [Act.put, List.setIfInBounds_toArray, List.set_cons_zero, List.set_cons_succ, List.getElem_toArray, List.getElem_cons_zero, List.getElem_cons_succ]
                refine wpAnyH_ready (rs := [8]) (by kernel_rfl) (by simp) ?_
                refine AllReadyH.cons rfl (fun K hK => ?_) AllReadyH.nil
                rw [if_pos (by rfl)]
                refine wp_store_part _ _ _ rfl gx 0 _ (cx) rfl rfl rfl _ ([]) (zTh) ([]) (by simpa using HGxsxpyq.out) rfl (by rw [HXsxpyq.out.len]; rfl) (HXsxpyq.out.info) HXsxpyq.out.one ?_
                intro wy hp
                refine hK.out _ _ ⟨(HCBsxpyq.out.put hp HGxsxpyq.out HLx.out).b1, (HCBsxpyq.out.put hp HGxsxpyq.out HLx.out).b2⟩ (fun hHeld => ?_)
                clear hK K
                try simp only [Act.put, List.setIfInBounds_toArray, List.set_cons_zero, List.set_cons_succ, List.getElem_toArray, List.getElem_cons_zero, List.getElem_cons_succ]
                have HCBy := Lib.hid (HCBsxpyq.out.put hp HGxsxpyq.out HLx.out); have KX1 : Hid (Bk wy gx 35 cx) := by show Bk _ _ _ _; have := hp.bk; simpa using this
                have KGy : Hid (Bk wy gy 35 zTh) := HGysxpyq.out.grown hp.only (by intro h; injection h with h; exact HNE.out h.symm)
                have HXy := Lib.hid (HXsxpyq.out.grown hp.only HGxsxpyq.out (by decide)); have HYy := Lib.hid (HYsxpyq.out.grown hp.only HGxsxpyq.out (by decide))
                clear hp
                refine wpAnyH_ready (rs := [9]) (by kernel_rfl) (by simp) ?_
                refine AllReadyH.cons rfl (fun K hK => ?_) AllReadyH.nil
                rw [if_pos (by rfl)]
                refine wp_store_part _ _ _ rfl gy 0 _ (cy) rfl rfl rfl _ ([]) (zTh) ([]) (by simpa using KGy.out) rfl (by rw [HYy.out.len]; rfl) (HYy.out.info) HYy.out.one ?_
                intro wz hp2
                refine hK.out _ _ ⟨(HCBy.out.put hp2 KGy.out HLy.out).b1, (HCBy.out.put hp2 KGy.out HLy.out).b2⟩ (fun hHeld => ?_)
                clear hK K
                try simp only [Act.put, List.setIfInBounds_toArray, List.set_cons_zero, List.set_cons_succ, List.getElem_toArray, List.getElem_cons_zero, List.getElem_cons_succ]
                refine wpAnyH_done (by kernel_rfl) ?_ _
                have KX : Hid (Bk wz gx 35 cx) := KX1.out.grown hp2.only (by intro h; injection h with h; exact HNE.out h)
                have KY : Hid (Bk wz gy 35 cy) := by show Bk _ _ _ _; have := hp2.bk; simpa using this
                have TX := Lib.hid (HXy.out.grown hp2.only KGy.out (by decide)); have TY := Lib.hid (HYy.out.grown hp2.only KGy.out (by decide)); have KC := Lib.hid (HCBy.out.put hp2 KGy.out HLy.out)
                clear hHeld hp2
                go_wp2_with fail
                go_meet
                exact ⟨gx, gy, cx, cy, rfl, rfl, KC, KX, KY, TX, TY⟩
              exact AllReadyH.nil
            exact AllReadyH.nil
          refine AllReadyH.cons rfl (fun K hK => ?_) ?_
          ·
            go_simp
            obtain ⟨gy, hgy⟩ : ∃ g, wsx.heap.size = g := ⟨_, rfl⟩
            obtain ⟨wsxy, hwsxy⟩ : ∃ w', wsx.alloc (.cells #[.int .i64 0, .int .u8 0, .int .u8 0, .int .u8 0, .int .u8 0, .int .u8 0, .int .u8 0, .int .u8 0, .int .u8 0, .int .i64 0, .slice none 0 0, .int .u8 0, .int .u8 0, .int .u8 0, .int .u8 0, .int .u8 0, .int .u8 0, .int .u8 0, .int .u8 0, .int .i64 0, .int .u8 0, .int .u8 0, .int .u8 0, .int .u8 0, .int .u8 0, .int .u8 0, .int .u8 0, .int .u8 0, .slice none 0 0, .slice none 0 0] 35) = w' := ⟨_, rfl⟩
            have hbn : Below wsx.heap.size wsx wsxy := hwsxy ▸ below_new wsx _
            have HGysxy : Hid (Bk wsxy gy 35 zTh) := by show Bk _ _ _ _; rw [← hwsxy]; exact Bk.at_ wsx _ _ hgy rfl
            have HLy : Hid (z0 ≤ gy) := by show _ ≤ _; rw [← hgy]; exact HCBsx.out.sz
            have HNE : Hid (gx ≠ gy) := by show _ ≠ _; have := HGxsx.out.lt; omega
            rw [hgy, hwsxy]
            clear hgy hwsxy
            have HGxsxy := Lib.hid (HGxsx.out.later hbn)
            have HCBsxy := Lib.hid (HCBsx.out.later hbn)
            clear hbn
            refine hK.out _ _ ⟨HCBsxy.out.b1, HCBsxy.out.b2⟩ (fun hHeld => ?_)
            clear hK K
            try simp only [Act.put, List.setIfInBounds_toArray, List.set_cons_zero, List.set_cons_succ, List.getElem_toArray, List.getElem_cons_zero, List.getElem_cons_succ]
            refine wpAnyH_ready (rs := [2]) (by kernel_rfl) (by simp) ?_
            refine AllReadyH.cons rfl (fun K hK => ?_) ?_
            ·
              go_simp
              go_at_call 38
              refine (dsign_any w wsxy lo g es HCBsxy.out.fi.bk HEL0.out HCBsxy.out.fi.lh HCBsxy.out.fi.hb HCBsxy.out.fi.wl o A1 N1 C1 HDO.out).mono ?_
              rintro e wsxyp ⟨⟨cx, rfl, hth⟩, hbk, hb, hk⟩
              have HXsxyp := Lib.hid hth; have HCBsxyp := Lib.hid (HCBsxy.out.sign hk hb hbk)
              have HGxsxyp := Lib.hid (HGxsxy.out.keeps hk (by decide) (by decide))
              have HGysxyp := Lib.hid (HGysxy.out.keeps hk (by decide) (by decide))
              clear hth hbk hb hk
              refine hK.out _ _ ⟨HCBsxyp.out.b1, HCBsxyp.out.b2⟩ (fun hHeld => ?_)
              clear hK K
              try simp only [Act.put, List.setIfInBounds_toArray, List.set_cons_zero, List.set_cons_succ, List.getElem_toArray, List.getElem_cons_zero, List.getElem_cons_succ]
              refine wpAnyH_ready (rs := [5]) (by kernel_rfl) (by simp) ?_
              refine AllReadyH.cons rfl (fun K hK => ?_) ?_
              ·
                go_simp
                go_at_call 38
                refine (dsign_any w wsxyp lo g (bookS es (deE o)) HCBsxyp.out.fi.bk HEL1.out HCBsxyp.out.fi.lh HCBsxyp.out.fi.hb HCBsxyp.out.fi.wl t A2 N2 C2 HDT.out).mono ?_
                rintro e wsxypq ⟨⟨cy, rfl, hth⟩, hbk, hb, hk⟩
                have HYsxypq := Lib.hid hth; have HCBsxypq := Lib.hid (HCBsxyp.out.sign hk hb hbk)
                have HGxsxypq := Lib.hid (HGxsxyp.out.keeps hk (by decide) (by decide))
                have HGysxypq := Lib.hid (HGysxyp.out.keeps hk (by decide) (by decide))
                have HXsxypq := Lib.hid (HXsxyp.out.keeps hk)
                clear hth hbk hb hk
                refine hK.out _ _ ⟨HCBsxypq.out.b1, HCBsxypq.out.b2⟩ (fun hHeld => ?_)
                clear hK K
                try simp only [Act.put, List.setIfInBounds_toArray, List.set_cons_zero, List.set_cons_succ, List.getElem_toArray, List.getElem_cons_zero, List.getElem_cons_succ]
                refine wpAnyH_ready (rs := [8]) (by kernel_rfl) (by simp) ?_
                refine AllReadyH.cons rfl (fun K hK => ?_) AllReadyH.nil
                rw [if_pos (by rfl)]
                refine wp_store_part _ _ _ rfl gx 0 _ (cx) rfl rfl rfl _ ([]) (zTh) ([]) (by simpa using HGxsxypq.out) rfl (by rw [HXsxypq.out.len]; rfl) (HXsxypq.out.info) HXsxypq.out.one ?_
                intro wy hp
                refine hK.out _ _ ⟨(HCBsxypq.out.put hp HGxsxypq.out HLx.out).b1, (HCBsxypq.out.put hp HGxsxypq.out HLx.out).b2⟩ (fun hHeld => ?_)
                clear hK K
                try simp only [Act.put, List.setIfInBounds_toArray, List.set_cons_zero, List.set_cons_succ, List.getElem_toArray, List.getElem_cons_zero, List.getElem_cons_succ]
                have HCBy := Lib.hid (HCBsxypq.out.put hp HGxsxypq.out HLx.out); have KX1 : Hid (Bk wy gx 35 cx) := by show Bk _ _ _ _; have := hp.bk; simpa using this
                have KGy : Hid (Bk wy gy 35 zTh) := HGysxypq.out.grown hp.only (by intro h; injection h with h; exact HNE.out h.symm)
                have HXy := Lib.hid (HXsxypq.out.grown hp.only HGxsxypq.out (by decide)); have HYy := Lib.hid (HYsxypq.out.grown hp.only HGxsxypq.out (by decide))
                clear hp
                refine wpAnyH_ready (rs := [9]) (by kernel_rfl) (by simp) ?_
                refine AllReadyH.cons rfl (fun K hK => ?_) AllReadyH.nil
                rw [if_pos (by rfl)]
                refine wp_store_part _ _ _ rfl gy 0 _ (cy) rfl rfl rfl _ ([]) (zTh) ([]) (by simpa using KGy.out) rfl (by rw [HYy.out.len]; rfl) (HYy.out.info) HYy.out.one ?_
                intro wz hp2
                refine hK.out _ _ ⟨(HCBy.out.put hp2 KGy.out HLy.out).b1, (HCBy.out.put hp2 KGy.out HLy.out).b2⟩ (fun hHeld => ?_)
                clear hK K
                try simp only [Act.put, List.setIfInBounds_toArray, List.set_cons_zero, List.set_cons_succ, List.getElem_toArray, List.getElem_cons_zero, List.getElem_cons_succ]
                refine wpAnyH_done (by kernel_rfl) ?_ _
                have KX : Hid (Bk wz gx 35 cx) := KX1.out.grown hp2.only (by intro h; injection h with h; exact HNE.out h)
                have KY : Hid (Bk wz gy 35 cy) := by show Bk _ _ _ _; have := hp2.bk; simpa using this
                have TX := Lib.hid (HXy.out.grown hp2.only KGy.out (by decide)); have TY := Lib.hid (HYy.out.grown hp2.only KGy.out (by decide)); have KC := Lib.hid (HCBy.out.put hp2 KGy.out HLy.out)
                clear hHeld hp2
                go_wp2_with fail
                go_meet
                exact ⟨gx, gy, cx, cy, rfl, rfl, KC, KX, KY, TX, TY⟩
              exact AllReadyH.nil
            exact AllReadyH.nil
          exact AllReadyH.nil
        refine AllReadyH.cons rfl (fun K hK => ?_) ?_
        ·
          go_simp
          obtain ⟨gy, hgy⟩ : ∃ g, ws.heap.size = g := ⟨_, rfl⟩
          obtain ⟨wsy, hwsy⟩ : ∃ w', ws.alloc (.cells #[.int .i64 0, .int .u8 0, .int .u8 0, .int .u8 0, .int .u8 0, .int .u8 0, .int .u8 0, .int .u8 0, .int .u8 0, .int .i64 0, .slice none 0 0, .int .u8 0, .int .u8 0, .int .u8 0, .int .u8 0, .int .u8 0, .int .u8 0, .int .u8 0, .int .u8 0, .int .i64 0, .int .u8 0, .int .u8 0, .int .u8 0, .int .u8 0, .int .u8 0, .int .u8 0, .int .u8 0, .int .u8 0, .slice none 0 0, .slice none 0 0] 35) = w' := ⟨_, rfl⟩
          have hbn : Below ws.heap.size ws wsy := hwsy ▸ below_new ws _
          have HGysy : Hid (Bk wsy gy 35 zTh) := by show Bk _ _ _ _; rw [← hwsy]; exact Bk.at_ ws _ _ hgy rfl
          have HLy : Hid (z0 ≤ gy) := by show _ ≤ _; rw [← hgy]; exact HCBs.out.sz
          rw [hgy, hwsy]
          clear hgy hwsy
          have HCBsy := Lib.hid (HCBs.out.later hbn)
          clear hbn
          refine hK.out _ _ ⟨HCBsy.out.b1, HCBsy.out.b2⟩ (fun hHeld => ?_)
          clear hK K
          try simp only [Act.put, List.setIfInBounds_toArray, List.set_cons_zero, List.set_cons_succ, List.getElem_toArray, List.getElem_cons_zero, List.getElem_cons_succ]
          refine wpAnyH_ready (rs := [2, 6]) (by kernel_rfl) (by simp) ?_
          refine AllReadyH.cons rfl (fun K hK => ?_) ?_
          ·
            go_simp
            go_at_call 38
            refine (dsign_any w wsy lo g es HCBsy.out.fi.bk HEL0.out HCBsy.out.fi.lh HCBsy.out.fi.hb HCBsy.out.fi.wl o A1 N1 C1 HDO.out).mono ?_
            rintro e wsyp ⟨⟨cx, rfl, hth⟩, hbk, hb, hk⟩
            have HXsyp := Lib.hid hth; have HCBsyp := Lib.hid (HCBsy.out.sign hk hb hbk)
            have HGysyp := Lib.hid (HGysy.out.keeps hk (by decide) (by decide))
            clear hth hbk hb hk
            refine hK.out _ _ ⟨HCBsyp.out.b1, HCBsyp.out.b2⟩ (fun hHeld => ?_)
            clear hK K
            try simp only [Act.put, List.setIfInBounds_toArray, List.set_cons_zero, List.set_cons_succ, List.getElem_toArray, List.getElem_cons_zero, List.getElem_cons_succ]
            refine wpAnyH_ready (rs := [5, 6]) (by kernel_rfl) (by simp) ?_
            refine AllReadyH.cons rfl (fun K hK => ?_) ?_
            ·
              go_simp
              go_at_call 38
              refine (dsign_any w wsyp lo g (bookS es (deE o)) HCBsyp.out.fi.bk HEL1.out HCBsyp.out.fi.lh HCBsyp.out.fi.hb HCBsyp.out.fi.wl t A2 N2 C2 HDT.out).mono ?_
              rintro e wsypq ⟨⟨cy, rfl, hth⟩, hbk, hb, hk⟩
              have HYsypq := Lib.hid hth; have HCBsypq := Lib.hid (HCBsyp.out.sign hk hb hbk)
              have HGysypq := Lib.hid (HGysyp.out.keeps hk (by decide) (by decide))
              have HXsypq := Lib.hid (HXsyp.out.keeps hk)
              clear hth hbk hb hk
              refine hK.out _ _ ⟨HCBsypq.out.b1, HCBsypq.out.b2⟩ (fun hHeld => ?_)
              clear hK K
              try simp only [Act.put, List.setIfInBounds_toArray, List.set_cons_zero, List.set_cons_succ, List.getElem_toArray, List.getElem_cons_zero, List.getElem_cons_succ]
              refine wpAnyH_ready (rs := [6]) (by kernel_rfl) (by simp) ?_
              refine AllReadyH.cons rfl (fun K hK => ?_) ?_
              ·
                go_simp
                obtain ⟨gx, hgx⟩ : ∃ g, wsypq.heap.size = g := ⟨_, rfl⟩
                obtain ⟨wsypqx, hwsypqx⟩ : ∃ w', wsypq.alloc (.cells #[.int .i64 0, .int .u8 0, .int .u8 0, .int .u8 0, .int .u8 0, .int .u8 0, .int .u8 0, .int .u8 0, .int .u8 0, .int .i64 0, .slice none 0 0, .int .u8 0, .int .u8 0, .int .u8 0, .int .u8 0, .int .u8 0, .int .u8 0, .int .u8 0, .int .u8 0, .int .i64 0, .int .u8 0, .int .u8 0, .int .u8 0, .int .u8 0, .int .u8 0, .int .u8 0, .int .u8 0, .int .u8 0, .slice none 0 0, .slice none 0 0] 35) = w' := ⟨_, rfl⟩
                have hbn : Below wsypq.heap.size wsypq wsypqx := hwsypqx ▸ below_new wsypq _
                have HGxsypqx : Hid (Bk wsypqx gx 35 zTh) := by show Bk _ _ _ _; rw [← hwsypqx]; exact Bk.at_ wsypq _ _ hgx rfl
                have HLx : Hid (z0 ≤ gx) := by show _ ≤ _; rw [← hgx]; exact HCBsypq.out.sz
                have HNE : Hid (gx ≠ gy) := by show _ ≠ _; have := HGysypq.out.lt; omega
                rw [hgx, hwsypqx]
                clear hgx hwsypqx
                have HGysypqx := Lib.hid (HGysypq.out.later hbn)
                have HXsypqx := Lib.hid (HXsypq.out.later hbn)
                have HYsypqx := Lib.hid (HYsypq.out.later hbn)
                have HCBsypqx := Lib.hid (HCBsypq.out.later hbn)
                clear hbn
                refine hK.out _ _ ⟨HCBsypqx.out.b1, HCBsypqx.out.b2⟩ (fun hHeld => ?_)
                clear hK K
                try simp only [Act.put, List.setIfInBounds_toArray, List.set_cons_zero, List.set_cons_succ, List.getElem_toArray, List.getElem_cons_zero, List.getElem_cons_succ]
                refine wpAnyH_ready (rs := [8]) (by kernel_rfl) (by simp) ?_
                refine AllReadyH.cons rfl (fun K hK => ?_) AllReadyH.nil
                rw [if_pos (by rfl)]
                refine wp_store_part _ _ _ rfl gx 0 _ (cx) rfl rfl rfl _ ([]) (zTh) ([]) (by simpa using HGxsypqx.out) rfl (by rw [HXsypqx.out.len]; rfl) (HXsypqx.out.info) HXsypqx.out.one ?_
                intro wy hp
                refine hK.out _ _ ⟨(HCBsypqx.out.put hp HGxsypqx.out HLx.out).b1, (HCBsypqx.out.put hp HGxsypqx.out HLx.out).b2⟩ (fun hHeld => ?_)
                clear hK K
                try simp only [Act.put, List.setIfInBounds_toArray, List.set_cons_zero, List.set_cons_succ, List.getElem_toArray, List.getElem_cons_zero, List.getElem_cons_succ]
                have HCBy := Lib.hid (HCBsypqx.out.put hp HGxsypqx.out HLx.out); have KX1 : Hid (Bk wy gx 35 cx) := by show Bk _ _ _ _; have := hp.bk; simpa using this
                have KGy : Hid (Bk wy gy 35 zTh) := HGysypqx.out.grown hp.only (by intro h; injection h with h; exact HNE.out h.symm)
                have HXy := Lib.hid (HXsypqx.out.grown hp.only HGxsypqx.out (by decide)); have HYy := Lib.hid (HYsypqx.out.grown hp.only HGxsypqx.out (by decide))
                clear hp
                refine wpAnyH_ready (rs := [9]) (by kernel_rfl) (by simp) ?_
                refine AllReadyH.cons rfl (fun K hK => ?_) AllReadyH.nil
                rw [if_pos (by rfl)]
                refine wp_store_part _ _ _ rfl gy 0 _ (cy) rfl rfl rfl _ ([]) (zTh) ([]) (by simpa using KGy.out) rfl (by rw [HYy.out.len]; rfl) (HYy.out.info) HYy.out.one ?_
                intro wz hp2
                refine hK.out _ _ ⟨(HCBy.out.put hp2 KGy.out HLy.out).b1, (HCBy.out.put hp2 KGy.out HLy.out).b2⟩ (fun hHeld => ?_)
                clear hK K
                try simp only [Act.put, List.setIfInBounds_toArray, List.set_cons_zero, List.set_cons_succ, List.getElem_toArray, List.getElem_cons_zero, List.getElem_cons_succ]
                refine wpAnyH_done (by kernel_rfl) ?_ _
                have KX : Hid (Bk wz gx 35 cx) := KX1.out.grown hp2.only (by intro h; injection h with h; exact HNE.out h)
                have KY : Hid (Bk wz gy 35 cy) := by show Bk _ _ _ _; have := hp2.bk; simpa using this
                have TX := Lib.hid (HXy.out.grown hp2.only KGy.out (by decide)); have TY := Lib.hid (HYy.out.grown hp2.only KGy.out (by decide)); have KC := Lib.hid (HCBy.out.put hp2 KGy.out HLy.out)
                clear hHeld hp2
                go_wp2_with fail
                go_meet
                exact ⟨gx, gy, cx, cy, rfl, rfl, KC, KX, KY, TX, TY⟩
              exact AllReadyH.nil
            refine AllReadyH.cons rfl (fun K hK => ?_) ?_
            ·
              go_simp
              obtain ⟨gx, hgx⟩ : ∃ g, wsyp.heap.size = g := ⟨_, rfl⟩
              obtain ⟨wsypx, hwsypx⟩ : ∃ w', wsyp.alloc (.cells #[.int .i64 0, .int .u8 0, .int .u8 0, .int .u8 0, .int .u8 0, .int .u8 0, .int .u8 0, .int .u8 0, .int .u8 0, .int .i64 0, .slice none 0 0, .int .u8 0, .int .u8 0, .int .u8 0, .int .u8 0, .int .u8 0, .int .u8 0, .int .u8 0, .int .u8 0, .int .i64 0, .int .u8 0, .int .u8 0, .int .u8 0, .int .u8 0, .int .u8 0, .int .u8 0, .int .u8 0, .int .u8 0, .slice none 0 0, .slice none 0 0] 35) = w' := ⟨_, rfl⟩
              have hbn : Below wsyp.heap.size wsyp wsypx := hwsypx ▸ below_new wsyp _
              have HGxsypx : Hid (Bk wsypx gx 35 zTh) := by show Bk _ _ _ _; rw [← hwsypx]; exact Bk.at_ wsyp _ _ hgx rfl
              have HLx : Hid (z0 ≤ gx) := by show _ ≤ _; rw [← hgx]; exact HCBsyp.out.sz
              have HNE : Hid (gx ≠ gy) := by show _ ≠ _; have := HGysyp.out.lt; omega
              rw [hgx, hwsypx]
              clear hgx hwsypx
              have HGysypx := Lib.hid (HGysyp.out.later hbn)
              have HXsypx := Lib.hid (HXsyp.out.later hbn)
              have HCBsypx := Lib.hid (HCBsyp.out.later hbn)
              clear hbn
              refine hK.out _ _ ⟨HCBsypx.out.b1, HCBsypx.out.b2⟩ (fun hHeld => ?_)
              clear hK K
              try simp only [Act.put, List.setIfInBounds_toArray, List.set_cons_zero, List.set_cons_succ, List.getElem_toArray, List.getElem_cons_zero, List.getElem_cons_succ]
              refine wpAnyH_ready (rs := [5]) (by kernel_rfl) (by simp) ?_
              refine AllReadyH.cons rfl (fun K hK => ?_) ?_
              ·
                go_simp
                go_at_call 38
                refine (dsign_any w wsypx lo g (bookS es (deE o)) HCBsypx.out.fi.bk HEL1.out HCBsypx.out.fi.lh HCBsypx.out.fi.hb HCBsypx.out.fi.wl t A2 N2 C2 HDT.out).mono ?_
                rintro e wsypxq ⟨⟨cy, rfl, hth⟩, hbk, hb, hk⟩
                have HYsypxq := Lib.hid hth; have HCBsypxq := Lib.hid (HCBsypx.out.sign hk hb hbk)
                have HGysypxq := Lib.hid (HGysypx.out.keeps hk (by decide) (by decide))
                have HXsypxq := Lib.hid (HXsypx.out.keeps hk)
                have HGxsypxq := Lib.hid (HGxsypx.out.keeps hk (by decide) (by decide))
                clear hth hbk hb hk
                refine hK.out _ _ ⟨HCBsypxq.out.b1, HCBsypxq.out.b2⟩ (fun hHeld => ?_)
                clear hK K
                try simp only [Act.put, List.setIfInBounds_toArray, List.set_cons_zero, List.set_cons_succ, List.getElem_toArray, List.getElem_cons_zero, List.getElem_cons_succ]
                refine wpAnyH_ready (rs := [8]) (by kernel_rfl) (by simp) ?_
                refine AllReadyH.cons rfl (fun K hK => ?_) AllReadyH.nil
                rw [if_pos (by rfl)]
                refine wp_store_part _ _ _ rfl gx 0 _ (cx) rfl rfl rfl _ ([]) (zTh) ([]) (by simpa using HGxsypxq.out) rfl (by rw [HXsypxq.out.len]; rfl) (HXsypxq.out.info) HXsypxq.out.one ?_
                intro wy hp
                refine hK.out _ _ ⟨(HCBsypxq.out.put hp HGxsypxq.out HLx.out).b1, (HCBsypxq.out.put hp HGxsypxq.out HLx.out).b2⟩ (fun hHeld => ?_)
                clear hK K
                try simp only [Act.put, List.setIfInBounds_toArray, List.set_cons_zero, List.set_cons_succ, List.getElem_toArray, List.getElem_cons_zero, List.getElem_cons_succ]
                have HCBy := Lib.hid (HCBsypxq.out.put hp HGxsypxq.out HLx.out); have KX1 : Hid (Bk wy gx 35 cx) := by show Bk _ _ _ _; have := hp.bk; simpa using this
                have KGy : Hid (Bk wy gy 35 zTh) := HGysypxq.out.grown hp.only (by intro h; injection h with h; exact HNE.out h.symm)
                have HXy := Lib.hid (HXsypxq.out.grown hp.only HGxsypxq.out (by decide)); have HYy := Lib.hid (HYsypxq.out.grown hp.only HGxsypxq.out (by decide))
                clear hp
                refine wpAnyH_ready (rs := [9]) (by kernel_rfl) (by simp) ?_
                refine AllReadyH.cons rfl (fun K hK => ?_) AllReadyH.nil
                rw [if_pos (by rfl)]
                refine wp_store_part _ _ _ rfl gy 0 _ (cy) rfl rfl rfl _ ([]) (zTh) ([]) (by simpa using KGy.out) rfl (by rw [HYy.out.len]; rfl) (HYy.out.info) HYy.out.one ?_
                intro wz hp2
                refine hK.out _ _ ⟨(HCBy.out.put hp2 KGy.out HLy.out).b1, (HCBy.out.put hp2 KGy.out HLy.out).b2⟩ (fun hHeld => ?_)
                clear hK K
                try simp only [Act.put, List.setIfInBounds_toArray, List.set_cons_zero, List.set_cons_succ, List.getElem_toArray, List.getElem_cons_zero, List.getElem_cons_succ]
                refine wpAnyH_done (by kernel_rfl) ?_ _
                have KX : Hid (Bk wz gx 35 cx) := KX1.out.grown hp2.only (by intro h; injection h with h; exact HNE.out h)
                have KY : Hid (Bk wz gy 35 cy) := by show Bk _ _ _ _; have := hp2.bk; simpa using this
                have TX := Lib.hid (HXy.out.grown hp2.only KGy.out (by decide)); have TY := Lib.hid (HYy.out.grown hp2.only KGy.out (by decide)); have KC := Lib.hid (HCBy.out.put hp2 KGy.out HLy.out)
                clear hHeld hp2
                go_wp2_with fail
                go_meet
                exact ⟨gx, gy, cx, cy, rfl, rfl, KC, KX, KY, TX, TY⟩
              exact AllReadyH.nil
            exact AllReadyH.nil
          refine AllReadyH.cons rfl (fun K hK => ?_) ?_
          ·
            go_simp
            obtain ⟨gx, hgx⟩ : ∃ g, wsy.heap.size = g := ⟨_, rfl⟩
            obtain ⟨wsyx, hwsyx⟩ : ∃ w', wsy.alloc (.cells #[.int .i64 0, .int .u8 0, .int .u8 0, .int .u8 0, .int .u8 0, .int .u8 0, .int .u8 0, .int .u8 0, .int .u8 0, .int .i64 0, .slice none 0 0, .int .u8 0, .int .u8 0, .int .u8 0, .int .u8 0, .int .u8 0, .int .u8 0, .int .u8 0, .int .u8 0, .int .i64 0, .int .u8 0, .int .u8 0, .int .u8 0, .int .u8 0, .int .u8 0, .int .u8 0, .int .u8 0, .int .u8 0, .slice none 0 0, .slice none 0 0] 35) = w' := ⟨_, rfl⟩
            have hbn : Below wsy.heap.size wsy wsyx := hwsyx ▸ below_new wsy _
            have HGxsyx : Hid (Bk wsyx gx 35 zTh) := by show Bk _ _ _ _; rw [← hwsyx]; exact Bk.at_ wsy _ _ hgx rfl
            have HLx : Hid (z0 ≤ gx) := by show _ ≤ _; rw [← hgx]; exact HCBsy.out.sz
            have HNE : Hid (gx ≠ gy) := by show _ ≠ _; have := HGysy.out.lt; omega
            rw [hgx, hwsyx]
            clear hgx hwsyx
            have HGysyx := Lib.hid (HGysy.out.later hbn)
            have HCBsyx := Lib.hid (HCBsy.out.later hbn)
            clear hbn
            refine hK.out _ _ ⟨HCBsyx.out.b1, HCBsyx.out.b2⟩ (fun hHeld => ?_)
            clear hK K
            try simp only [Act.put, List.setIfInBounds_toArray, List.set_cons_zero, List.set_cons_succ, List.getElem_toArray, List.getElem_cons_zero, List.getElem_cons_succ]
            refine wpAnyH_ready (rs := [2]) (by kernel_rfl) (by simp) ?_
            refine AllReadyH.cons rfl (fun K hK => ?_) ?_
            ·
              go_simp
              go_at_call 38
              refine (dsign_any w wsyx lo g es HCBsyx.out.fi.bk HEL0.out HCBsyx.out.fi.lh HCBsyx.out.fi.hb HCBsyx.out.fi.wl o A1 N1 C1 HDO.out).mono ?_
              rintro e wsyxp ⟨⟨cx, rfl, hth⟩, hbk, hb, hk⟩
              have HXsyxp := Lib.hid hth; have HCBsyxp := Lib.hid (HCBsyx.out.sign hk hb hbk)
              have HGysyxp := Lib.hid (HGysyx.out.keeps hk (by decide) (by decide))
              have HGxsyxp := Lib.hid (HGxsyx.out.keeps hk (by decide) (by decide))
              clear hth hbk hb hk
              refine hK.out _ _ ⟨HCBsyxp.out.b1, HCBsyxp.out.b2⟩ (fun hHeld => ?_)
              clear hK K
              try simp only [Act.put, List.setIfInBounds_toArray, List.set_cons_zero, List.set_cons_succ, List.getElem_toArray, List.getElem_cons_zero, List.getElem_cons_succ]
              refine wpAnyH_ready (rs := [5]) (by kernel_rfl) (by simp) ?_
              refine AllReadyH.cons rfl (fun K hK => ?_) ?_
              ·
                go_simp
                go_at_call 38
                refine (dsign_any w wsyxp lo g (bookS es (deE o)) HCBsyxp.out.fi.bk HEL1.out HCBsyxp.out.fi.lh HCBsyxp.out.fi.hb HCBsyxp.out.fi.wl t A2 N2 C2 HDT.out).mono ?_
                rintro e wsyxpq ⟨⟨cy, rfl, hth⟩, hbk, hb, hk⟩
                have HYsyxpq := Lib.hid hth; have HCBsyxpq := Lib.hid (HCBsyxp.out.sign hk hb hbk)
                have HGysyxpq := Lib.hid (HGysyxp.out.keeps hk (by decide) (by decide))
                have HGxsyxpq := Lib.hid (HGxsyxp.out.keeps hk (by decide) (by decide))
                have HXsyxpq := Lib.hid (HXsyxp.out.keeps hk)
                clear hth hbk hb hk
                refine hK.out _ _ ⟨HCBsyxpq.out.b1, HCBsyxpq.out.b2⟩ (fun hHeld => ?_)
                clear hK K
                try simp only [Act.put, List.setIfInBounds_toArray, List.set_cons_zero, List.set_cons_succ, List.getElem_toArray, List.getElem_cons_zero, List.getElem_cons_succ]
                refine wpAnyH_ready (rs := [8]) (by kernel_rfl) (by simp) ?_
                refine AllReadyH.cons rfl (fun K hK => ?_) AllReadyH.nil
                rw [if_pos (by rfl)]
                refine wp_store_part _ _ _ rfl gx 0 _ (cx) rfl rfl rfl _ ([]) (zTh) ([]) (by simpa using HGxsyxpq.out) rfl (by rw [HXsyxpq.out.len]; rfl) (HXsyxpq.out.info) HXsyxpq.out.one ?_
                intro wy hp
                refine hK.out _ _ ⟨(HCBsyxpq.out.put hp HGxsyxpq.out HLx.out).b1, (HCBsyxpq.out.put hp HGxsyxpq.out HLx.out).b2⟩ (fun hHeld => ?_)
                clear hK K
                try simp only [Act.put, List.setIfInBounds_toArray, List.set_cons_zero, List.set_cons_succ, List.getElem_toArray, List.getElem_cons_zero, List.getElem_cons_succ]
                have HCBy := Lib.hid (HCBsyxpq.out.put hp HGxsyxpq.out HLx.out); have KX1 : Hid (Bk wy gx 35 cx) := by show Bk _ _ _ _; have := hp.bk; simpa using this
                have KGy : Hid (Bk wy gy 35 zTh) := HGysyxpq.out.grown hp.only (by intro h; injection h with h; exact HNE.out h.symm)
                have HXy := Lib.hid (HXsyxpq.out.grown hp.only HGxsyxpq.out (by decide)); have HYy := Lib.hid (HYsyxpq.out.grown hp.only HGxsyxpq.out (by decide))
                clear hp
                refine wpAnyH_ready (rs := [9]) (by kernel_rfl) (by simp) ?_
                refine AllReadyH.cons rfl (fun K hK => ?_) AllReadyH.nil
                rw [if_pos (by rfl)]
                refine wp_store_part _ _ _ rfl gy 0 _ (cy) rfl rfl rfl _ ([]) (zTh) ([]) (by simpa using KGy.out) rfl (by rw [HYy.out.len]; rfl) (HYy.out.info) HYy.out.one ?_
                intro wz hp2
                refine hK.out _ _ ⟨(HCBy.out.put hp2 KGy.out HLy.out).b1, (HCBy.out.put hp2 KGy.out HLy.out).b2⟩ (fun hHeld => ?_)
                clear hK K
                try simp only [Act.put, List.setIfInBounds_toArray, List.set_cons_zero, List.set_cons_succ, List.getElem_toArray, List.getElem_cons_zero, List.getElem_cons_succ]
                refine wpAnyH_done (by kernel_rfl) ?_ _
                have KX : Hid (Bk wz gx 35 cx) := KX1.out.grown hp2.only (by intro h; injection h with h; exact HNE.out h)
                have KY : Hid (Bk wz gy 35 cy) := by show Bk _ _ _ _; have := hp2.bk; simpa using this
                have TX := Lib.hid (HXy.out.grown hp2.only KGy.out (by decide)); have TY := Lib.hid (HYy.out.grown hp2.only KGy.out (by decide)); have KC := Lib.hid (HCBy.out.put hp2 KGy.out HLy.out)
                clear hHeld hp2
                go_wp2_with fail
                go_meet
                exact ⟨gx, gy, cx, cy, rfl, rfl, KC, KX, KY, TX, TY⟩
              exact AllReadyH.nil
            exact AllReadyH.nil
          exact AllReadyH.nil
        exact AllReadyH.nil
      obtain ⟨gx, gy, cx, cy, rfl, rfl, HCB9, HKX9, HKY9, HTX, HTY⟩ := hcut
      obtain ⟨w9, hw9⟩ : ∃ w9, w9 = wc := ⟨_, rfl⟩
      subst hw9
      clear HCB8
      refine ‹∀ (a : Act) (w : World), Code.wp _ _ _ a w → _› _ _ ?_
      go_upto_region 17 with fail
      have hdr := dg_eq_run _ _ (dgT_ok (deT o es)) (dgT_ok (deT t (bookS es (deE o))))
      obtain ⟨u, hu⟩ : ∃ u, eqL (dgT (deT o es)) (dgT (deT t (bookS es (deE o)))) = u := ⟨_, rfl⟩
      rw [hu] at hdr
      have HU := Lib.hid hu
      clear hu
      refine wp_region_held_drew (S := fun w' => Bk w' gx 35 cx ∧ Bk w' gy 35 cy) (by kernel_rfl) ⟨Bk.drew HKX9.out, Bk.drew HKY9.out⟩ (fun hHeld => ?_)
      have hbd : Below w9.heap.size w9 w9.drew := below_draws w9 w9.heap.size 1
      obtain ⟨wa, hwa⟩ : ∃ wa, w9.drew = wa := ⟨_, rfl⟩
      rw [hwa] at hbd hHeld ⊢
      have HCBa := Lib.hid (HCB9.out.later hbd); have HKXa := Lib.hid (HKX9.out.later hbd); have HKYa := Lib.hid (HKY9.out.later hbd); have HTXa := Lib.hid (HTX.out.later hbd); have HTYa := Lib.hid (HTY.out.later hbd)
      clear hwa hbd HCB9 HKX9 HKY9 HTX HTY
      refine wpAnyH_take (i := 0) (v := .agg (List.toArray (cx))) rfl (by kernel_rfl) (by kernel_rfl) (by kernel_rfl) (fun _ _ _ h => h) (yieldsIf_load_mid (by rfl) _ _ rfl _ _ rfl (cx) _ (fun w hSw => (Bk.range (pre := []) (post := []) (by simpa using hSw.1) rfl)) Try.underlying35 rfl (HTXa.out.info)) (by assumption) ?_
      try simp only [Act.put, List.setIfInBounds_toArray, List.set_cons_zero, List.set_cons_succ, List.getElem_toArray, List.getElem_cons_zero, List.getElem_cons_succ]
      refine wpAnyH_take (i := 2) (v := .agg (List.toArray (cy))) rfl (by kernel_rfl) (by kernel_rfl) (by kernel_rfl) (fun _ _ _ h => h) (yieldsIf_load_mid (by rfl) _ _ rfl _ _ rfl (cy) _ (fun w hSw => (Bk.range (pre := []) (post := []) (by simpa using hSw.2) rfl)) Try.underlying35 rfl (HTYa.out.info)) (by assumption) ?_
      try simp only [Act.put, List.setIfInBounds_toArray, List.set_cons_zero, List.set_cons_succ, List.getElem_toArray, List.getElem_cons_zero, List.getElem_cons_succ]
      refine wpAnyH_ready (rs := [1]) (by kernel_rfl) (by simp) ?_
      refine AllReadyH.cons rfl (fun K hK => ?_) AllReadyH.nil
      go_simp
      (go_at_call 28; refine (thDigest (HTXa.out.thg HCBa.out.fi.hb)).mono ?_; rintro e wb ⟨rfl, hbn⟩; have HCBb := Lib.hid (HCBa.out.later hbn); have HKXb := Lib.hid (HKXa.out.later hbn); have HKYb := Lib.hid (HKYa.out.later hbn); have HTXb := Lib.hid (HTXa.out.later hbn); have HTYb := Lib.hid (HTYa.out.later hbn); clear hbn)
      refine hK.out _ _ (⟨HKXb.out, HKYb.out⟩) (fun hHeld => ?_)
      clear hK K
      try simp only [Act.put, List.setIfInBounds_toArray, List.set_cons_zero, List.set_cons_succ, List.getElem_toArray, List.getElem_cons_zero, List.getElem_cons_succ]
      refine wpAnyH_ready (rs := [3]) (by kernel_rfl) (by simp) ?_
      refine AllReadyH.cons rfl (fun K hK => ?_) AllReadyH.nil
      go_simp
      (go_at_call 28; refine (thDigest (HTYb.out.thg HCBb.out.fi.hb)).mono ?_; rintro e wd ⟨rfl, hbn⟩; have HCBd := Lib.hid (HCBb.out.later hbn); have HKXd := Lib.hid (HKXb.out.later hbn); have HKYd := Lib.hid (HKYb.out.later hbn); have HTXd := Lib.hid (HTXb.out.later hbn); have HTYd := Lib.hid (HTYb.out.later hbn); clear hbn)
      refine hK.out _ _ (⟨HKXd.out, HKYd.out⟩) (fun hHeld => ?_)
      clear hK K
      try simp only [Act.put, List.setIfInBounds_toArray, List.set_cons_zero, List.set_cons_succ, List.getElem_toArray, List.getElem_cons_zero, List.getElem_cons_succ]
      refine wpAnyH_take (i := 4) (v := ?_) rfl (by kernel_rfl) (by kernel_rfl) (by kernel_rfl) (fun _ _ _ h => h) (Or.inl ⟨by rfl, ?_⟩) (by assumption) ?_
      rotate_left
      · intro w hSw
        (try dsimp only at hSw)
        go_simp
        try with_reducible rfl
      try simp only [Act.put, List.setIfInBounds_toArray, List.set_cons_zero, List.set_cons_succ, List.getElem_toArray, List.getElem_cons_zero, List.getElem_cons_succ]
      refine wpAnyH_take (i := 5) (v := ?_) rfl (by kernel_rfl) (by kernel_rfl) (by kernel_rfl) (fun _ _ _ h => h) (Or.inl ⟨by rfl, ?_⟩) (by assumption) ?_
      rotate_left
      · intro w hSw
        (try dsimp only at hSw)
        go_simp
        try with_reducible rfl
      try simp only [Act.put, List.setIfInBounds_toArray, List.set_cons_zero, List.set_cons_succ, List.getElem_toArray, List.getElem_cons_zero, List.getElem_cons_succ]
      refine wpAnyH_done (by kernel_rfl) ?_ _
      clear hHeld hdr HCBa HKXa HKYa HTXa HTYa HCBb HKXb HKYb HTXb HTYb
      go_upto_region 18 with fail
      obtain ⟨m, hm⟩ : ∃ m, n + 1 = m := ⟨_, rfl⟩
      have HM := Lib.hid hm
      clear hm
      have HALL : Hid (∀ u ∈ (ys.map (·.1)).flatten, u.oneCell' = true) := fun u hu => by
        obtain ⟨l, hl, hul⟩ := List.mem_flatten.1 hu
        obtain ⟨y, hy, rfl⟩ := List.mem_map.1 hl
        exact (HCBd.out.fi.th y hy).one u hul
      try simp only [Act.put, List.setIfInBounds_toArray, List.set_cons_zero, List.set_cons_succ, List.getElem_toArray, List.getElem_cons_zero, List.getElem_cons_succ]
      go_cut [24] (fun a wx => ∃ (q9 C9 : Nat), a = .slice (some ⟨q9, 0, none⟩) (m + 1) C9 ∧ m + 1 ≤ C9 ∧ Hid (wx.ownsRow 0 35 30 (.slice (some ⟨q9, 0, none⟩) (m + 1) C9) (m + 1) (cx ++ (ys.map (·.1)).flatten ++ cy)) ∧ Hid (Below wd.heap.size wd wx))
      case first =>
        as_aux_lemma =>
        refine wp_region_held_drew (S := fun w' => Bk w' gx 35 cx ∧ Bk w' gy 35 cy) (by kernel_rfl) ⟨Bk.drew HKXd.out, Bk.drew HKYd.out⟩ (fun hHeld => ?_)
        have hbd : Below wd.heap.size wd wd.drew := below_draws wd wd.heap.size 1
        obtain ⟨wB, hwB⟩ : ∃ wa, wd.drew = wa := ⟨_, rfl⟩
        rw [hwB] at hbd hHeld ⊢
        have HCB := Lib.hid (HCBd.out.later hbd); have HKX := Lib.hid (HKXd.out.later hbd); have HKY := Lib.hid (HKYd.out.later hbd); have HTX := HTXd; have HTY := HTYd
        have HBD := Lib.hid hbd; have HBEB : Hid (Below wB.heap.size wB wB) := Below.refl _ _
        obtain ⟨i0, z0', hi, hi0, hi1, hi2, hi3⟩ := th_parts
        clear hwB hbd HCBd HKXd HKYd HTXd HTYd
        refine wpAnyH_take (i := 0) (v := .agg (List.toArray (cx))) rfl (by kernel_rfl) (by kernel_rfl) (by kernel_rfl) (fun _ _ _ h => h) (yieldsIf_load_mid (by rfl) _ _ rfl _ _ rfl (cx) _ (fun w hSw => (Bk.range (pre := []) (post := []) (by simpa using hSw.1) rfl)) Try.underlying35 rfl (HTX.out.info)) (by assumption) ?_
        try simp only [Act.put, List.setIfInBounds_toArray, List.set_cons_zero, List.set_cons_succ, List.getElem_toArray, List.getElem_cons_zero, List.getElem_cons_succ]
        refine wpAnyH_take (i := 2) (v := ?_) rfl (by kernel_rfl) (by kernel_rfl) (by kernel_rfl) (fun _ _ _ h => h) (Or.inl ⟨by rfl, ?_⟩) (by assumption) ?_
        rotate_left
        · intro w hSw
          (try dsimp only at hSw)
          go_simp
          try with_reducible rfl
        try simp only [Act.put, List.setIfInBounds_toArray, List.set_cons_zero, List.set_cons_succ, List.getElem_toArray, List.getElem_cons_zero, List.getElem_cons_succ]
        refine wpAnyH_take (i := 4) (v := .agg (List.toArray (cy))) rfl (by kernel_rfl) (by kernel_rfl) (by kernel_rfl) (fun _ _ _ h => h) (yieldsIf_load_mid (by rfl) _ _ rfl _ _ rfl (cy) _ (fun w hSw => (Bk.range (pre := []) (post := []) (by simpa using hSw.2) rfl)) Try.underlying35 rfl (HTY.out.info)) (by assumption) ?_
        try simp only [Act.put, List.setIfInBounds_toArray, List.set_cons_zero, List.set_cons_succ, List.getElem_toArray, List.getElem_cons_zero, List.getElem_cons_succ]
        refine wpAnyH_ready (rs := [1, 5]) (by kernel_rfl) (by simp) ?_
        refine AllReadyH.cons rfl (fun K hK => ?_) ?_
        ·
          rw [if_pos (by rfl)]
          refine wp_bslice 68 1 _ rfl #[(0, .agg cx.toArray)] (by simp [Act.eval, Act.put]) _ _ (bs_th HTX.out wB) ?_
          obtain ⟨q1, hq1⟩ : ∃ g, wB.heap.size = g := ⟨_, rfl⟩
          obtain ⟨wBp, hwBp⟩ : ∃ w', wB.alloc (.cells cx.toArray 35) = w' := ⟨_, rfl⟩
          have hbn : Below wB.heap.size wB wBp := hwBp ▸ below_new wB _
          have HQ1Bp : Hid (Bk wBp q1 35 cx) := by show Bk _ _ _ _; rw [← hwBp]; exact Bk.at_ wB _ _ hq1 (by simp)
          have HLq1 : Hid (wB.heap.size ≤ q1) := by show _ ≤ _; rw [← hq1]; exact HBEB.out.size
          rw [hq1, hwBp]
          clear hq1 hwBp
          have HBEBp := Lib.hid (below_then HBEB.out hbn)
          clear hbn
          refine hK.out _ _ ⟨HKX.out.later HBEBp.out, HKY.out.later HBEBp.out⟩ (fun hHeld => ?_)
          clear hK K
          try simp only [Act.put, List.setIfInBounds_toArray, List.set_cons_zero, List.set_cons_succ, List.getElem_toArray, List.getElem_cons_zero, List.getElem_cons_succ]
          refine wpAnyH_ready (rs := [3, 5]) (by kernel_rfl) (by simp) ?_
          refine AllReadyH.cons rfl (fun K hK => ?_) ?_
          ·
            rw [if_pos (by rfl)]
            have hown0 := HQ1Bp.out.own (base := wB.heap.size) (size := 30) (cap := 1) (n := 1) HLq1.out (Nat.le_refl _) (by omega) (by rw [HTX.out.len]) (by rw [List.take_of_length_le (by rw [HTX.out.len]; exact Nat.le_refl _)])
            have hn20 := HNN.out; have hrw := (HCB.out.fi.later HBEBp.out).row; rw [HYN.out] at hrw
            refine wp_app _ (.tmp 100) (.tmp 101) 68 rfl wB.heap.size 35 i0 z0' 30 120 Try.underlying68 hi hi0 hi1 hi2 hi3 (by decide) _ _ _ rfl hown0 _ _ _ _ _ rfl (Sl.of_own hrw) HALL.out (by unfold maxLen; omega) (by omega) HBEBp.out.size ?_
            intro vBpm wBpm hown hg hat
            have HR3Bpm := Lib.hid hown; have HBEBpm := Lib.hid (grown_below HBEBp.out hown0 hg (Nat.le_refl _) HBEBp.out.size)
            obtain ⟨A3, C3, hv3⟩ := own_form hown
            subst hv3
            clear hown0 hn20 hrw hown hg hat
            refine hK.out _ _ ⟨HKX.out.later HBEBpm.out, HKY.out.later HBEBpm.out⟩ (fun hHeld => ?_)
            clear hK K
            try simp only [Act.put, List.setIfInBounds_toArray, List.set_cons_zero, List.set_cons_succ, List.getElem_toArray, List.getElem_cons_zero, List.getElem_cons_succ]
            refine wpAnyH_ready (rs := [5]) (by kernel_rfl) (by simp) ?_
            refine AllReadyH.cons rfl (fun K hK => ?_) ?_
            ·
              rw [if_pos (by rfl)]
              refine wp_bslice 68 1 _ rfl #[(0, .agg cy.toArray)] (by simp [Act.eval, Act.put]) _ _ (bs_th HTY.out wBpm) ?_
              obtain ⟨q5, hq5⟩ : ∃ g, wBpm.heap.size = g := ⟨_, rfl⟩
              obtain ⟨wBpmq, hwBpmq⟩ : ∃ w', wBpm.alloc (.cells cy.toArray 35) = w' := ⟨_, rfl⟩
              have hbn : Below wBpm.heap.size wBpm wBpmq := hwBpmq ▸ below_new wBpm _
              have HQ5Bpmq : Hid (Bk wBpmq q5 35 cy) := by show Bk _ _ _ _; rw [← hwBpmq]; exact Bk.at_ wBpm _ _ hq5 (by simp)
              have HLq5 : Hid (wB.heap.size ≤ q5) := by show _ ≤ _; rw [← hq5]; exact HBEBpm.out.size
              rw [hq5, hwBpmq]
              clear hq5 hwBpmq
              have HR3Bpmq := Lib.hid (own_keep HR3Bpm.out hbn)
              have HBEBpmq := Lib.hid (below_then HBEBpm.out hbn)
              clear hbn
              refine hK.out _ _ ⟨HKX.out.later HBEBpmq.out, HKY.out.later HBEBpmq.out⟩ (fun hHeld => ?_)
              clear hK K
              try simp only [Act.put, List.setIfInBounds_toArray, List.set_cons_zero, List.set_cons_succ, List.getElem_toArray, List.getElem_cons_zero, List.getElem_cons_succ]
              refine wpAnyH_ready (rs := [6]) (by kernel_rfl) (by simp) ?_
              refine AllReadyH.cons rfl (fun K hK => ?_) ?_
              ·
                rw [if_pos (by rfl)]
                have hn20 := HNN.out
                refine wp_app _ (.tmp 102) (.tmp 104) 68 rfl wB.heap.size 35 i0 z0' 30 120 Try.underlying68 hi hi0 hi1 hi2 hi3 (by decide) _ _ _ rfl HR3Bpmq.out _ _ _ _ _ rfl (Sl.of_own (HQ5Bpmq.out.own (base := 0) (size := 30) (cap := 1) (n := 1) (Nat.zero_le _) (Nat.le_refl _) (by omega) (by rw [HTY.out.len]) (by rw [List.take_of_length_le (by rw [HTY.out.len]; exact Nat.le_refl _)]))) HTY.out.one (by unfold maxLen; omega) (by omega) HBEBpmq.out.size ?_
                intro vBpmqn wBpmqn hown hg hat
                have HR6 := Lib.hid hown; have HBEBpmqn := Lib.hid (grown_below HBEBpmq.out HR3Bpmq.out hg (Nat.le_refl _) HBEBpmq.out.size)
                clear hn20 hown hg hat
                refine hK.out _ _ ⟨HKX.out.later HBEBpmqn.out, HKY.out.later HBEBpmqn.out⟩ (fun hHeld => ?_)
                clear hK K
                try simp only [Act.put, List.setIfInBounds_toArray, List.set_cons_zero, List.set_cons_succ, List.getElem_toArray, List.getElem_cons_zero, List.getElem_cons_succ]
                refine wpAnyH_take (i := 7) (v := ?_) rfl (by kernel_rfl) (by kernel_rfl) (by kernel_rfl) (fun _ _ _ h => h) (Or.inl ⟨by rfl, ?_⟩) (by assumption) ?_
                rotate_left
                · intro w hSw
                  (try dsimp only at hSw)
                  go_simp
                  try with_reducible rfl
                try simp only [Act.put, List.setIfInBounds_toArray, List.set_cons_zero, List.set_cons_succ, List.getElem_toArray, List.getElem_cons_zero, List.getElem_cons_succ]
                refine wpAnyH_done (by kernel_rfl) ?_ _
                clear hHeld
                go_wp2_with fail
                go_meet
                rcases own_bk HR6.out with ⟨rfl, h0, _⟩ | ⟨q9, C9, ls, rfl, _, _, hle, _⟩
                · omega
                have hrow := own_base HR6.out (Nat.zero_le _)
                have hmn := HM.out
                rw [show 1 + n + 1 = m + 1 by omega] at hrow hle ⊢
                exact ⟨q9, C9, rfl, hle, hrow, below_then HBD.out HBEBpmqn.out⟩
              exact AllReadyH.nil
            exact AllReadyH.nil
          refine AllReadyH.cons rfl (fun K hK => ?_) ?_
          ·
            rw [if_pos (by rfl)]
            refine wp_bslice 68 1 _ rfl #[(0, .agg cy.toArray)] (by simp [Act.eval, Act.put]) _ _ (bs_th HTY.out wBp) ?_
            obtain ⟨q5, hq5⟩ : ∃ g, wBp.heap.size = g := ⟨_, rfl⟩
            obtain ⟨wBpq, hwBpq⟩ : ∃ w', wBp.alloc (.cells cy.toArray 35) = w' := ⟨_, rfl⟩
            have hbn : Below wBp.heap.size wBp wBpq := hwBpq ▸ below_new wBp _
            have HQ5Bpq : Hid (Bk wBpq q5 35 cy) := by show Bk _ _ _ _; rw [← hwBpq]; exact Bk.at_ wBp _ _ hq5 (by simp)
            have HLq5 : Hid (wB.heap.size ≤ q5) := by show _ ≤ _; rw [← hq5]; exact HBEBp.out.size
            have HNE : Hid (q5 ≠ q1) := by show _ ≠ _; have := HQ1Bp.out.lt; omega
            rw [hq5, hwBpq]
            clear hq5 hwBpq
            have HQ1Bpq := Lib.hid (HQ1Bp.out.later hbn)
            have HBEBpq := Lib.hid (below_then HBEBp.out hbn)
            clear hbn
            refine hK.out _ _ ⟨HKX.out.later HBEBpq.out, HKY.out.later HBEBpq.out⟩ (fun hHeld => ?_)
            clear hK K
            try simp only [Act.put, List.setIfInBounds_toArray, List.set_cons_zero, List.set_cons_succ, List.getElem_toArray, List.getElem_cons_zero, List.getElem_cons_succ]
            refine wpAnyH_ready (rs := [3]) (by kernel_rfl) (by simp) ?_
            refine AllReadyH.cons rfl (fun K hK => ?_) ?_
            ·
              rw [if_pos (by rfl)]
              have hown0 := HQ1Bpq.out.own (base := wB.heap.size) (size := 30) (cap := 1) (n := 1) HLq1.out (Nat.le_refl _) (by omega) (by rw [HTX.out.len]) (by rw [List.take_of_length_le (by rw [HTX.out.len]; exact Nat.le_refl _)])
              have hn20 := HNN.out; have hrw := (HCB.out.fi.later HBEBpq.out).row; rw [HYN.out] at hrw
              refine wp_app _ (.tmp 100) (.tmp 101) 68 rfl wB.heap.size 35 i0 z0' 30 120 Try.underlying68 hi hi0 hi1 hi2 hi3 (by decide) _ _ _ rfl hown0 _ _ _ _ _ rfl (Sl.of_own hrw) HALL.out (by unfold maxLen; omega) (by omega) HBEBpq.out.size ?_
              intro vBpqm wBpqm hown hg hat
              have HR3Bpqm := Lib.hid hown; have HBEBpqm := Lib.hid (grown_below HBEBpq.out hown0 hg (Nat.le_refl _) HBEBpq.out.size)
              obtain ⟨A3, C3, hv3⟩ := own_form hown
              subst hv3
              have hg1 : wBpq.grownBy wBpqm (some q1) := hg
              have HQ5Bpqm := Lib.hid (HQ5Bpq.out.grown hg1 (by intro e; injection e with e; exact HNE.out e))
              clear hg1
              clear hown0 hn20 hrw hown hg hat
              refine hK.out _ _ ⟨HKX.out.later HBEBpqm.out, HKY.out.later HBEBpqm.out⟩ (fun hHeld => ?_)
              clear hK K
              try simp only [Act.put, List.setIfInBounds_toArray, List.set_cons_zero, List.set_cons_succ, List.getElem_toArray, List.getElem_cons_zero, List.getElem_cons_succ]
              refine wpAnyH_ready (rs := [6]) (by kernel_rfl) (by simp) ?_
              refine AllReadyH.cons rfl (fun K hK => ?_) ?_
              ·
                rw [if_pos (by rfl)]
                have hn20 := HNN.out
                refine wp_app _ (.tmp 102) (.tmp 104) 68 rfl wB.heap.size 35 i0 z0' 30 120 Try.underlying68 hi hi0 hi1 hi2 hi3 (by decide) _ _ _ rfl HR3Bpqm.out _ _ _ _ _ rfl (Sl.of_own (HQ5Bpqm.out.own (base := 0) (size := 30) (cap := 1) (n := 1) (Nat.zero_le _) (Nat.le_refl _) (by omega) (by rw [HTY.out.len]) (by rw [List.take_of_length_le (by rw [HTY.out.len]; exact Nat.le_refl _)]))) HTY.out.one (by unfold maxLen; omega) (by omega) HBEBpqm.out.size ?_
                intro vBpqmn wBpqmn hown hg hat
                have HR6 := Lib.hid hown; have HBEBpqmn := Lib.hid (grown_below HBEBpqm.out HR3Bpqm.out hg (Nat.le_refl _) HBEBpqm.out.size)
                clear hn20 hown hg hat
                refine hK.out _ _ ⟨HKX.out.later HBEBpqmn.out, HKY.out.later HBEBpqmn.out⟩ (fun hHeld => ?_)
                clear hK K
                try simp only [Act.put, List.setIfInBounds_toArray, List.set_cons_zero, List.set_cons_succ, List.getElem_toArray, List.getElem_cons_zero, List.getElem_cons_succ]
                refine wpAnyH_take (i := 7) (v := ?_) rfl (by kernel_rfl) (by kernel_rfl) (by kernel_rfl) (fun _ _ _ h => h) (Or.inl ⟨by rfl, ?_⟩) (by assumption) ?_
                rotate_left
                · intro w hSw
                  (try dsimp only at hSw)
                  go_simp
                  try with_reducible rfl
                try simp only [Act.put, List.setIfInBounds_toArray, List.set_cons_zero, List.set_cons_succ, List.getElem_toArray, List.getElem_cons_zero, List.getElem_cons_succ]
                refine wpAnyH_done (by kernel_rfl) ?_ _
                clear hHeld
                go_wp2_with fail
                go_meet
                rcases own_bk HR6.out with ⟨rfl, h0, _⟩ | ⟨q9, C9, ls, rfl, _, _, hle, _⟩
                · omega
                have hrow := own_base HR6.out (Nat.zero_le _)
                have hmn := HM.out
                rw [show 1 + n + 1 = m + 1 by omega] at hrow hle ⊢
                exact ⟨q9, C9, rfl, hle, hrow, below_then HBD.out HBEBpqmn.out⟩
              exact AllReadyH.nil
            exact AllReadyH.nil
          exact AllReadyH.nil
        refine AllReadyH.cons rfl (fun K hK => ?_) ?_
        ·
          rw [if_pos (by rfl)]
          refine wp_bslice 68 1 _ rfl #[(0, .agg cy.toArray)] (by simp [Act.eval, Act.put]) _ _ (bs_th HTY.out wB) ?_
          obtain ⟨q5, hq5⟩ : ∃ g, wB.heap.size = g := ⟨_, rfl⟩
          obtain ⟨wBq, hwBq⟩ : ∃ w', wB.alloc (.cells cy.toArray 35) = w' := ⟨_, rfl⟩
          have hbn : Below wB.heap.size wB wBq := hwBq ▸ below_new wB _
          have HQ5Bq : Hid (Bk wBq q5 35 cy) := by show Bk _ _ _ _; rw [← hwBq]; exact Bk.at_ wB _ _ hq5 (by simp)
          have HLq5 : Hid (wB.heap.size ≤ q5) := by show _ ≤ _; rw [← hq5]; exact HBEB.out.size
          rw [hq5, hwBq]
          clear hq5 hwBq
          have HBEBq := Lib.hid (below_then HBEB.out hbn)
          clear hbn
          refine hK.out _ _ ⟨HKX.out.later HBEBq.out, HKY.out.later HBEBq.out⟩ (fun hHeld => ?_)
          clear hK K
          try simp only [Act.put, List.setIfInBounds_toArray, List.set_cons_zero, List.set_cons_succ, List.getElem_toArray, List.getElem_cons_zero, List.getElem_cons_succ]
          refine wpAnyH_ready (rs := [1]) (by kernel_rfl) (by simp) ?_
          refine AllReadyH.cons rfl (fun K hK => ?_) ?_
          ·
            rw [if_pos (by rfl)]
            refine wp_bslice 68 1 _ rfl #[(0, .agg cx.toArray)] (by simp [Act.eval, Act.put]) _ _ (bs_th HTX.out wBq) ?_
            obtain ⟨q1, hq1⟩ : ∃ g, wBq.heap.size = g := ⟨_, rfl⟩
            obtain ⟨wBqp, hwBqp⟩ : ∃ w', wBq.alloc (.cells cx.toArray 35) = w' := ⟨_, rfl⟩
            have hbn : Below wBq.heap.size wBq wBqp := hwBqp ▸ below_new wBq _
            have HQ1Bqp : Hid (Bk wBqp q1 35 cx) := by show Bk _ _ _ _; rw [← hwBqp]; exact Bk.at_ wBq _ _ hq1 (by simp)
            have HLq1 : Hid (wB.heap.size ≤ q1) := by show _ ≤ _; rw [← hq1]; exact HBEBq.out.size
            have HNE : Hid (q5 ≠ q1) := by show _ ≠ _; have := HQ5Bq.out.lt; omega
            rw [hq1, hwBqp]
            clear hq1 hwBqp
            have HQ5Bqp := Lib.hid (HQ5Bq.out.later hbn)
            have HBEBqp := Lib.hid (below_then HBEBq.out hbn)
            clear hbn
            refine hK.out _ _ ⟨HKX.out.later HBEBqp.out, HKY.out.later HBEBqp.out⟩ (fun hHeld => ?_)
            clear hK K
            try simp only [Act.put, List.setIfInBounds_toArray, List.set_cons_zero, List.set_cons_succ, List.getElem_toArray, List.getElem_cons_zero, List.getElem_cons_succ]
            refine wpAnyH_ready (rs := [3]) (by kernel_rfl) (by simp) ?_
            refine AllReadyH.cons rfl (fun K hK => ?_) ?_
            ·
              rw [if_pos (by rfl)]
              have hown0 := HQ1Bqp.out.own (base := wB.heap.size) (size := 30) (cap := 1) (n := 1) HLq1.out (Nat.le_refl _) (by omega) (by rw [HTX.out.len]) (by rw [List.take_of_length_le (by rw [HTX.out.len]; exact Nat.le_refl _)])
              have hn20 := HNN.out; have hrw := (HCB.out.fi.later HBEBqp.out).row; rw [HYN.out] at hrw
              refine wp_app _ (.tmp 100) (.tmp 101) 68 rfl wB.heap.size 35 i0 z0' 30 120 Try.underlying68 hi hi0 hi1 hi2 hi3 (by decide) _ _ _ rfl hown0 _ _ _ _ _ rfl (Sl.of_own hrw) HALL.out (by unfold maxLen; omega) (by omega) HBEBqp.out.size ?_
              intro vBqpm wBqpm hown hg hat
              have HR3Bqpm := Lib.hid hown; have HBEBqpm := Lib.hid (grown_below HBEBqp.out hown0 hg (Nat.le_refl _) HBEBqp.out.size)
              obtain ⟨A3, C3, hv3⟩ := own_form hown
              subst hv3
              have hg1 : wBqp.grownBy wBqpm (some q1) := hg
              have HQ5Bqpm := Lib.hid (HQ5Bqp.out.grown hg1 (by intro e; injection e with e; exact HNE.out e))
              clear hg1
              clear hown0 hn20 hrw hown hg hat
              refine hK.out _ _ ⟨HKX.out.later HBEBqpm.out, HKY.out.later HBEBqpm.out⟩ (fun hHeld => ?_)
              clear hK K
              try simp only [Act.put, List.setIfInBounds_toArray, List.set_cons_zero, List.set_cons_succ, List.getElem_toArray, List.getElem_cons_zero, List.getElem_cons_succ]
              refine wpAnyH_ready (rs := [6]) (by kernel_rfl) (by simp) ?_
              refine AllReadyH.cons rfl (fun K hK => ?_) ?_
              ·
                rw [if_pos (by rfl)]
                have hn20 := HNN.out
                refine wp_app _ (.tmp 102) (.tmp 104) 68 rfl wB.heap.size 35 i0 z0' 30 120 Try.underlying68 hi hi0 hi1 hi2 hi3 (by decide) _ _ _ rfl HR3Bqpm.out _ _ _ _ _ rfl (Sl.of_own (HQ5Bqpm.out.own (base := 0) (size := 30) (cap := 1) (n := 1) (Nat.zero_le _) (Nat.le_refl _) (by omega) (by rw [HTY.out.len]) (by rw [List.take_of_length_le (by rw [HTY.out.len]; exact Nat.le_refl _)]))) HTY.out.one (by unfold maxLen; omega) (by omega) HBEBqpm.out.size ?_
                intro vBqpmn wBqpmn hown hg hat
                have HR6 := Lib.hid hown; have HBEBqpmn := Lib.hid (grown_below HBEBqpm.out HR3Bqpm.out hg (Nat.le_refl _) HBEBqpm.out.size)
                clear hn20 hown hg hat
                refine hK.out _ _ ⟨HKX.out.later HBEBqpmn.out, HKY.out.later HBEBqpmn.out⟩ (fun hHeld => ?_)
                clear hK K
                try simp only [Act.put, List.setIfInBounds_toArray, List.set_cons_zero, List.set_cons_succ, List.getElem_toArray, List.getElem_cons_zero, List.getElem_cons_succ]
                refine wpAnyH_take (i := 7) (v := ?_) rfl (by kernel_rfl) (by kernel_rfl) (by kernel_rfl) (fun _ _ _ h => h) (Or.inl ⟨by rfl, ?_⟩) (by assumption) ?_
                rotate_left
                · intro w hSw
                  (try dsimp only at hSw)
                  go_simp
                  try with_reducible rfl
                try simp only [Act.put, List.setIfInBounds_toArray, List.set_cons_zero, List.set_cons_succ, List.getElem_toArray, List.getElem_cons_zero, List.getElem_cons_succ]
                refine wpAnyH_done (by kernel_rfl) ?_ _
                clear hHeld
                go_wp2_with fail
                go_meet
                rcases own_bk HR6.out with ⟨rfl, h0, _⟩ | ⟨q9, C9, ls, rfl, _, _, hle, _⟩
                · omega
                have hrow := own_base HR6.out (Nat.zero_le _)
                have hmn := HM.out
                rw [show 1 + n + 1 = m + 1 by omega] at hrow hle ⊢
                exact ⟨q9, C9, rfl, hle, hrow, below_then HBD.out HBEBqpmn.out⟩
              exact AllReadyH.nil
            exact AllReadyH.nil
          exact AllReadyH.nil
        exact AllReadyH.nil
      obtain ⟨q9, C9, rfl, hC9, HRW, HB18⟩ := hcut
      obtain ⟨we, hwe⟩ : ∃ w9, w9 = wc := ⟨_, rfl⟩
      subst hwe
      refine ‹∀ (a : Act) (w : World), Code.wp _ _ _ a w → _› _ _ ?_
      have HCBe := Lib.hid (HCBd.out.later HB18.out); have HTXe := Lib.hid (HTXd.out.later HB18.out); have HTYe := Lib.hid (HTYd.out.later HB18.out)
      clear HCBd HKXd HKYd HTXd HTYd HB18
      have HTS : Hid (Ths we (some ⟨q9, 0, none⟩) (m + 1) (((cx, deT o es) :: ys) ++ [(cy, deT t (bookS es (deE o)))])) := by
        refine ⟨by have := Sl.of_own HRW.out; simpa using this, fun y hy => ?_⟩
        rcases List.mem_append.1 hy with hy | hy
        · rcases List.mem_cons.1 hy with rfl | hy
          · exact HTXe.out.thg HCBe.out.fi.hb
          · exact (HCBe.out.fi.th y hy).thg HCBe.out.fi.hb
        · simp only [List.mem_singleton] at hy
          subst hy
          exact HTYe.out.thg HCBe.out.fi.hb
      obtain ⟨zs, hzs⟩ : ∃ zs, ((cx, deT o es) :: ys) ++ [(cy, deT t (bookS es (deE o)))] = zs := ⟨_, rfl⟩
      have HZM : Hid (zs.map (·.2) = deT o es :: (ys.map (·.2) ++ [deT t (bookS es (deE o))])) := by show _ = _; rw [← hzs]; simp
      have HZS := Lib.hid hzs
      rw [hzs] at HTS
      clear hzs HRW HTXe HTYe HALL
      have hm20 : m ≤ 21 := by have := HNN.out; have := HM.out; omega
      have hwm : IntKind.i64.wrap (m : Int) = m := by
        rw [IntWalk.i64_in]
        omega
      have hmC : (m : Int) ≤ C9 := by omega
      have hm0 : (0 : Int) ≤ m := by omega
      go_wp2_with fail
      refine (table_any we second).mono ?_
      rintro e wf ⟨rfl, hbn⟩
      have HCBf := Lib.hid (HCBe.out.later hbn); have HTSf := Lib.hid (HTS.out.later hbn)
      clear hbn HCBe HTS
      go_wp2_with fail
      refine (key_any wf seat).mono ?_
      rintro e wh ⟨rfl, hbn⟩
      have HCBh := Lib.hid (HCBf.out.later hbn); have HTSh := Lib.hid (HTSf.out.later hbn)
      clear hbn HCBf HTSf
      go_wp2_with fail
      refine (find_any wh lo g (bookS (bookS es (deE o)) (deE t)) HCBh.out.fi.bk HEL2.out (tabD second) (keyD seat) (tabD_ok _) (keyD_ok _) (some ⟨q9, 0, none⟩) (m + 1) C9 zs HTSh.out (by omega)).mono ?_
      rintro e wi ⟨fi, fj, is, rfl, hF, hbn⟩
      have HCBi := Lib.hid (HCBh.out.later hbn); have HTSi := Lib.hid (HTSh.out.later hbn)
      have hIS : is = (!u) ∧ (is = true → fi = 0 ∧ fj = m) := by
        rw [← HTSh.out.length] at hF
        have hb := HON.out.2.2.2.2
        have := HCG.out.is HZM.out HON.out.1 HON.out.2.1 HON.out.2.2.1 HON.out.2.2.2.1 (by rw [hb]; exact hF)
        refine ⟨by rw [this.1, ← HU.out]; rfl, fun h => ⟨(this.2 h).1, ?_⟩⟩
        rw [(this.2 h).2, List.length_map, HYN.out]
        exact HM.out
      obtain ⟨his, hij⟩ := hIS
      have HIJ := Lib.hid hij
      clear hbn hF HCBh HTSh hij
      subst his
      go_wp2_with fail
      refine wp_region_held_drew (S := fun _ => True) (by kernel_rfl) trivial (fun hHeld => ?_)
      have hbd : Below wi.heap.size wi wi.drew := below_draws wi wi.heap.size 1
      obtain ⟨wj, hwj⟩ : ∃ wa, wi.drew = wa := ⟨_, rfl⟩
      rw [hwj] at hbd ⊢
      have HCBj := Lib.hid (HCBi.out.later hbd); have HTSj := Lib.hid (HTSi.out.later hbd)
      clear hwj hbd HCBi HTSi
      refine wpAnyH_take (i := 0) (v := ?_) rfl (by kernel_rfl) (by kernel_rfl) (by kernel_rfl) (fun _ _ _ h => h) (Or.inl ⟨by rfl, ?_⟩) (by assumption) ?_
      rotate_left
      · intro w hSw
        (try dsimp only at hSw)
        go_simp
        try with_reducible rfl
      try simp only [Act.put, List.setIfInBounds_toArray, List.set_cons_zero, List.set_cons_succ, List.getElem_toArray, List.getElem_cons_zero, List.getElem_cons_succ]
      refine wpAnyH_take (i := 2) (v := ?_) rfl (by kernel_rfl) (by kernel_rfl) (by kernel_rfl) (fun _ _ _ h => h) (Or.inl ⟨by rfl, ?_⟩) (by assumption) ?_
      rotate_left
      · intro w hSw
        (try dsimp only at hSw)
        go_simp
        try with_reducible rfl
      try simp only [Act.put, List.setIfInBounds_toArray, List.set_cons_zero, List.set_cons_succ, List.getElem_toArray, List.getElem_cons_zero, List.getElem_cons_succ]
      refine wpAnyH_take (i := 4) (v := ?_) rfl (by kernel_rfl) (by kernel_rfl) (by kernel_rfl) (fun _ _ _ h => h) (Or.inl ⟨by rfl, ?_⟩) (by assumption) ?_
      rotate_left
      · intro w hSw
        (try dsimp only at hSw)
        go_simp
        try with_reducible rfl
      try simp only [Act.put, List.setIfInBounds_toArray, List.set_cons_zero, List.set_cons_succ, List.getElem_toArray, List.getElem_cons_zero, List.getElem_cons_succ]
      refine wpAnyH_take (i := 6) (v := ?_) rfl (by kernel_rfl) (by kernel_rfl) (by kernel_rfl) (fun _ _ _ h => h) (Or.inl ⟨by rfl, ?_⟩) (by assumption) ?_
      rotate_left
      · intro w hSw
        (try dsimp only at hSw)
        go_simp
        try with_reducible rfl
      try simp only [Act.put, List.setIfInBounds_toArray, List.set_cons_zero, List.set_cons_succ, List.getElem_toArray, List.getElem_cons_zero, List.getElem_cons_succ]
      refine wpAnyH_take (i := 7) (v := ?_) rfl (by kernel_rfl) (by kernel_rfl) (by kernel_rfl) (fun _ _ _ h => h) (Or.inl ⟨by rfl, ?_⟩) (by assumption) ?_
      rotate_left
      · intro w hSw
        (try dsimp only at hSw)
        go_simp
        try with_reducible rfl
      try simp only [Act.put, List.setIfInBounds_toArray, List.set_cons_zero, List.set_cons_succ, List.getElem_toArray, List.getElem_cons_zero, List.getElem_cons_succ]
      refine wpAnyH_take (i := 1) (v := ?_) rfl (by kernel_rfl) (by kernel_rfl) (by kernel_rfl) (fun _ _ _ h => h) (Or.inl ⟨by rfl, ?_⟩) (by assumption) ?_
      rotate_left
      · intro w hSw
        (try dsimp only at hSw)
        go_simp
        try with_reducible rfl
      try simp only [Act.put, List.setIfInBounds_toArray, List.set_cons_zero, List.set_cons_succ, List.getElem_toArray, List.getElem_cons_zero, List.getElem_cons_succ]
      refine wpAnyH_take (i := 8) (v := ?_) rfl (by kernel_rfl) (by kernel_rfl) (by kernel_rfl) (fun _ _ _ h => h) (Or.inl ⟨by rfl, ?_⟩) (by assumption) ?_
      rotate_left
      · intro w hSw
        (try dsimp only at hSw)
        go_simp
        try with_reducible rfl
      try simp only [Act.put, List.setIfInBounds_toArray, List.set_cons_zero, List.set_cons_succ, List.getElem_toArray, List.getElem_cons_zero, List.getElem_cons_succ]
      refine wpAnyH_take (i := 9) (v := ?_) rfl (by kernel_rfl) (by kernel_rfl) (by kernel_rfl) (fun _ _ _ h => h) (Or.inl ⟨by rfl, ?_⟩) (by assumption) ?_
      rotate_left
      · intro w hSw
        (try dsimp only at hSw)
        go_simp
        try with_reducible rfl
      try simp only [Act.put, List.setIfInBounds_toArray, List.set_cons_zero, List.set_cons_succ, List.getElem_toArray, List.getElem_cons_zero, List.getElem_cons_succ]
      refine wpAnyH_take (i := 10) (v := ?_) rfl (by kernel_rfl) (by kernel_rfl) (by kernel_rfl) (fun _ _ _ h => h) (Or.inl ⟨by rfl, ?_⟩) (by assumption) ?_
      rotate_left
      · intro w hSw
        (try dsimp only at hSw)
        go_simp
        try with_reducible rfl
      try simp only [Act.put, List.setIfInBounds_toArray, List.set_cons_zero, List.set_cons_succ, List.getElem_toArray, List.getElem_cons_zero, List.getElem_cons_succ]
      refine wpAnyH_ready (rs := [3]) (by kernel_rfl) (by simp) ?_
      refine AllReadyH.cons rfl (fun K hK => ?_) AllReadyH.nil
      go_simp
      (go_at_call 39; refine (table_any wj second).mono ?_; rintro e wk ⟨rfl, hbn⟩; have HCBk := Lib.hid (HCBj.out.later hbn); have HTSk := Lib.hid (HTSj.out.later hbn); clear hbn)
      refine hK.out _ _ (trivial) (fun hHeld => ?_)
      clear hK K
      try simp only [Act.put, List.setIfInBounds_toArray, List.set_cons_zero, List.set_cons_succ, List.getElem_toArray, List.getElem_cons_zero, List.getElem_cons_succ]
      refine wpAnyH_ready (rs := [5]) (by kernel_rfl) (by simp) ?_
      refine AllReadyH.cons rfl (fun K hK => ?_) AllReadyH.nil
      go_simp
      (go_at_call 27; refine (key_any wk seat).mono ?_; rintro e wl ⟨rfl, hbn⟩; have HCBl := Lib.hid (HCBk.out.later hbn); have HTSl := Lib.hid (HTSk.out.later hbn); clear hbn)
      refine hK.out _ _ (trivial) (fun hHeld => ?_)
      clear hK K
      try simp only [Act.put, List.setIfInBounds_toArray, List.set_cons_zero, List.set_cons_succ, List.getElem_toArray, List.getElem_cons_zero, List.getElem_cons_succ]
      refine wpAnyH_ready (rs := [11]) (by kernel_rfl) (by simp) ?_
      refine AllReadyH.cons rfl (fun K hK => ?_) AllReadyH.nil
      go_simp
      (go_at_call 40; refine (find_any wl lo g (bookS (bookS es (deE o)) (deE t)) HCBl.out.fi.bk HEL2.out (tabD second) (keyD seat) (tabD_ok _) (keyD_ok _) (some ⟨q9, 0, none⟩) m C9 ((cx, deT o es) :: ys) (by have := HTSl.out; rw [← HZS.out] at this; exact this.front) (by omega)).mono ?_; rintro e wm ⟨gi, gj, ok, rfl, hF, hbn⟩; have HCBm := Lib.hid (HCBl.out.later hbn); have HTSm := Lib.hid (HTSl.out.later hbn); have hok : ok = false := HCG.out.front (x := (cy, deT t (bookS es (deE o)))) (by have := HZM.out; rw [← HZS.out] at this; exact this) (by rw [show ((cx, deT o es) :: ys).length = m by simp [HYN.out, HM.out]]; exact hF); subst hok; clear hF hbn)
      refine hK.out _ _ (trivial) (fun hHeld => ?_)
      clear hK K
      try simp only [Act.put, List.setIfInBounds_toArray, List.set_cons_zero, List.set_cons_succ, List.getElem_toArray, List.getElem_cons_zero, List.getElem_cons_succ]
      refine wpAnyH_take (i := 12) (v := ?_) rfl (by kernel_rfl) (by kernel_rfl) (by kernel_rfl) (fun _ _ _ h => h) (Or.inl ⟨by rfl, ?_⟩) (by assumption) ?_
      rotate_left
      · intro w hSw
        (try dsimp only at hSw)
        go_simp
        try with_reducible rfl
      try simp only [Act.put, List.setIfInBounds_toArray, List.set_cons_zero, List.set_cons_succ, List.getElem_toArray, List.getElem_cons_zero, List.getElem_cons_succ]
      refine wpAnyH_take (i := 13) (v := ?_) rfl (by kernel_rfl) (by kernel_rfl) (by kernel_rfl) (fun _ _ _ h => h) (Or.inl ⟨by rfl, ?_⟩) (by assumption) ?_
      rotate_left
      · intro w hSw
        (try dsimp only at hSw)
        go_simp
        try with_reducible rfl
      try simp only [Act.put, List.setIfInBounds_toArray, List.set_cons_zero, List.set_cons_succ, List.getElem_toArray, List.getElem_cons_zero, List.getElem_cons_succ]
      refine wpAnyH_take (i := 14) (v := ?_) rfl (by kernel_rfl) (by kernel_rfl) (by kernel_rfl) (fun _ _ _ h => h) (Or.inl ⟨by rfl, ?_⟩) (by assumption) ?_
      rotate_left
      · intro w hSw
        (try dsimp only at hSw)
        go_simp
        try with_reducible rfl
      try simp only [Act.put, List.setIfInBounds_toArray, List.set_cons_zero, List.set_cons_succ, List.getElem_toArray, List.getElem_cons_zero, List.getElem_cons_succ]
      refine wpAnyH_take (i := 15) (v := ?_) rfl (by kernel_rfl) (by kernel_rfl) (by kernel_rfl) (fun _ _ _ h => h) (Or.inl ⟨by rfl, ?_⟩) (by assumption) ?_
      rotate_left
      · intro w hSw
        (try dsimp only at hSw)
        go_simp
        try with_reducible rfl
      try simp only [Act.put, List.setIfInBounds_toArray, List.set_cons_zero, List.set_cons_succ, List.getElem_toArray, List.getElem_cons_zero, List.getElem_cons_succ]
      refine wpAnyH_take (i := 16) (v := ?_) rfl (by kernel_rfl) (by kernel_rfl) (by kernel_rfl) (fun _ _ _ h => h) (Or.inl ⟨by rfl, ?_⟩) (by assumption) ?_
      rotate_left
      · intro w hSw
        (try dsimp only at hSw)
        go_simp
        try with_reducible rfl
      try simp only [Act.put, List.setIfInBounds_toArray, List.set_cons_zero, List.set_cons_succ, List.getElem_toArray, List.getElem_cons_zero, List.getElem_cons_succ]
      refine wpAnyH_take (i := 17) (v := ?_) rfl (by kernel_rfl) (by kernel_rfl) (by kernel_rfl) (fun _ _ _ h => h) (Or.inl ⟨by rfl, ?_⟩) (by assumption) ?_
      rotate_left
      · intro w hSw
        (try dsimp only at hSw)
        go_simp
        try with_reducible rfl
      try simp only [Act.put, List.setIfInBounds_toArray, List.set_cons_zero, List.set_cons_succ, List.getElem_toArray, List.getElem_cons_zero, List.getElem_cons_succ]
      refine wpAnyH_take (i := 18) (v := ?_) rfl (by kernel_rfl) (by kernel_rfl) (by kernel_rfl) (fun _ _ _ h => h) (Or.inl ⟨by rfl, ?_⟩) (by assumption) ?_
      rotate_left
      · intro w hSw
        (try dsimp only at hSw)
        go_simp
        try with_reducible rfl
      try simp only [Act.put, List.setIfInBounds_toArray, List.set_cons_zero, List.set_cons_succ, List.getElem_toArray, List.getElem_cons_zero, List.getElem_cons_succ]
      refine wpAnyH_done (by kernel_rfl) ?_ _
      clear hHeld HCBj HTSj HCBk HTSk HCBl HTSl
      go_wp2_with fail
      refine (table_any wm (!second)).mono ?_
      rintro e wn ⟨rfl, hbn⟩
      have HCBn := Lib.hid (HCBm.out.later hbn); have HTSn := Lib.hid (HTSm.out.later hbn)
      clear hbn HCBm HTSm
      go_wp2_with fail
      refine (key_any wn seat).mono ?_
      rintro e wo ⟨rfl, hbn⟩
      have HCBo := Lib.hid (HCBn.out.later hbn); have HTSo := Lib.hid (HTSn.out.later hbn)
      clear hbn HCBn HTSn
      go_wp2_with fail
      refine (find_any wo lo g (bookS (bookS es (deE o)) (deE t)) HCBo.out.fi.bk HEL2.out (tabD (!second)) (keyD seat) (tabD_ok _) (keyD_ok _) (some ⟨q9, 0, none⟩) (m + 1) C9 zs HTSo.out (by omega)).mono ?_
      rintro e wp ⟨gk, gl, oth, rfl, hF, hbn⟩
      have HCBp := Lib.hid (HCBo.out.later hbn)
      have hoth : oth = false := HCG.out.other HZM.out (by rw [HON.out.2.2.2.2]; exact hF)
      subst hoth
      clear hF hbn HCBo HTSo
      cases u
      · obtain ⟨e1, e2⟩ := HIJ.out rfl
        subst e1; subst e2
        go_wp2_with fail
        go_ret
        exact ⟨by simp, HCBp.out.fi.hb⟩
      · go_wp2_with fail
        go_ret
        exact ⟨rfl, HCBp.out.fi.hb⟩
end Go.Proofs.Ythibihjblodfmaa
