/- Things as lists of cells: what each function says of them; their digests. -/
import Derived.Test.YthibihjblodfmaaUT
import Derived.Test.YthibihjblodfmaaQ6
import Derived.Test.YthibihjblodfmaaQ8
import Derived.Test.YthibihjblodfmaaS5
import Derived.Test.YthibihjblodfmaaNC
namespace Go.Proofs.Ythibihjblodfmaa
open Go.RowKit Go.Maps

structure TgOk (T : Tg) : Prop where
  n0 : -9223372036854775808 ≤ T.n
  n1 : T.n < 9223372036854775808
  m0 : -9223372036854775808 ≤ T.m
  m1 : T.m < 9223372036854775808
  pl : T.ps.length ≤ 1073741824
  ql : T.qs.length ≤ 1073741824
/-- The cells are a thing. -/
structure Thg (w : World) (cs : List Value) (T : Tg) : Prop where
  go : ∃ (A1 A2 A3 : Option Addr) (N1 N2 N3 C1 C2 C3 : Nat), cs = thC T.k T.n T.m T.t T.u T.v (.slice A1 N1 C1) (.slice A2 N2 C2) (.slice A3 N3 C3) ∧ Sls w w.heap.size A1 A2 A3 N1 N2 N3 T.ps T.qs T.ss
  ht : DgOk T.t
  hu : DgOk T.u
  hv : DgOk T.v
  ok : TgOk T
section
variable {w w' : World} {cs : List Value} {T : Tg}
theorem Thg.later (h : Thg w cs T) (hb : Below w.heap.size w w') : Thg w' cs T := by
  obtain ⟨⟨A1, A2, A3, N1, N2, N3, C1, C2, C3, h1, h2⟩, a, b, c, d⟩ := h
  exact ⟨⟨A1, A2, A3, N1, N2, N3, C1, C2, C3, h1, h2.later hb⟩, a, b, c, d⟩
theorem Thg.len (h : Thg w cs T) : cs.length = 30 := by
  obtain ⟨⟨A1, A2, A3, N1, N2, N3, C1, C2, C3, h1, h2⟩, a, b, c, d⟩ := h
  rw [h1, thC_len a b c]
theorem Thg.one (h : Thg w cs T) : ∀ x ∈ cs, x.oneCell' = true := by
  obtain ⟨⟨A1, A2, A3, N1, N2, N3, C1, C2, C3, h1, h2⟩, a, b, c, d⟩ := h
  rw [h1]; exact th_one
theorem Thg.info (h : Thg w cs T) : (Try.prog.info? 35).map (·.size) = some cs.length := by rw [h.len]; exact th_size
theorem thCheck (h : Thg w cs T) : Calls Try.prog 33 #[.agg cs.toArray] w fun e w' => e = .returned (.int .i64 (checkT T.k T.n T.m T.t T.u T.v T.ps T.qs T.ss)) ∧ Below w.heap.size w w' := by
  obtain ⟨⟨A1, A2, A3, N1, N2, N3, C1, C2, C3, rfl, h2⟩, a, b, c, d⟩ := h
  exact check_any w T.k T.n T.m T.t T.u T.v a b c A1 A2 A3 N1 N2 N3 C1 C2 C3 T.ps T.qs T.ss h2
theorem thPlace (h : Thg w cs T) : Calls Try.prog 30 #[.agg cs.toArray] w fun e w' => e = .returned (.tuple #[.agg (dl (placeT T.k T.t T.u)).toArray, .int .i64 (placeN T.k T.n T.m), .agg (dl (placeA T.k T.v)).toArray]) ∧ Below w.heap.size w w' := by
  obtain ⟨⟨A1, A2, A3, N1, N2, N3, C1, C2, C3, rfl, h2⟩, a, b, c, d⟩ := h
  exact place_any w T.k T.n T.m T.t T.u T.v a b c A1 A2 A3 N1 N2 N3 C1 C2 C3
end
def dgT (T : Tg) : List Int := if T.k = 0 then ofI (stB T.t T.n T.ps) else if T.k = 1 then ofI (acB T.u T.m T.v T.qs) else zeroD
theorem dgT_ok (T : Tg) : DgOk (dgT T) := by
  unfold dgT
  split
  · exact ofI_ok _
  · split
    · exact ofI_ok _
    · exact zero_ok
theorem thdig_ret {w : World} {g : Nat} {t : List Int} (ht : DgOk t) (h : Bk w g 29 (dl t)) (tmps : Array Value) (h2 : tmps.getD 2 undef = .pointer (some ⟨g, 0, none⟩)) :
    (results Try.f28 tmps).run Try.prog w = .ok (.agg (dl t).toArray) w := by
  have r1 : w.rangeAt g 0 (dl t) := Bk.range (pre := []) (post := []) (by simpa using h) rfl
  have l1 := run_loadVar_mid (P := Try.prog) w g 0 29 (dl t) _ r1 Try.underlying29 rfl (dg_sz ht)
  rw [Array.getD_eq_getD_getElem?] at h2
  simp [results, Try.results28, h2, asAddr, l1]
set_option maxRecDepth 20000 in
set_option maxHeartbeats 4000000 in
theorem thDigest {w : World} {cs : List Value} {T : Tg} (h : Thg w cs T) : Calls Try.prog 28 #[.agg cs.toArray] w fun e w' => e = .returned (.agg (dl (dgT T)).toArray) ∧ Below w.heap.size w w' := by
  obtain ⟨⟨A1, A2, A3, N1, N2, N3, C1, C2, C3, rfl, h2⟩, ht, hu, hv, hok⟩ := h
  obtain ⟨X, hX⟩ : ∃ X, (thC T.k T.n T.m T.t T.u T.v (.slice A1 N1 C1) (.slice A2 N2 C2) (.slice A3 N3 C3)).toArray = X := ⟨_, rfl⟩
  obtain ⟨w1, hw1⟩ : ∃ w1, (w.alloc (.cells X 35)).alloc (.cells #[.int .u8 0, .int .u8 0, .int .u8 0, .int .u8 0, .int .u8 0, .int .u8 0, .int .u8 0, .int .u8 0] 29) = w1 := ⟨_, rfl⟩
  have hb1 : Below w.heap.size w w1 := hw1 ▸ (below_new w _).alloc (by simp) _
  have kx : Bk w1 w.heap.size 35 (thC T.k T.n T.m T.t T.u T.v (.slice A1 N1 C1) (.slice A2 N2 C2) (.slice A3 N3 C3)) := hw1 ▸ (Bk.new' w _ X (by rw [← hX])).alloc _
  have kz : Bk w1 (w.heap.size + 1) 29 (dl zeroD) := hw1 ▸ Bk.at_ _ _ #[.int .u8 0, .int .u8 0, .int .u8 0, .int .u8 0, .int .u8 0, .int .u8 0, .int .u8 0, .int .u8 0] (by simp) rfl
  have HW := Lib.hid hw1; have HB1 := Lib.hid hb1; have HZ1 := Lib.hid kz
  have hm := th_mem ht hu hv kx
  have HM := Lib.hid hm
  have c0 := hm.c0
  have hs1 := h2.later hb1
  have HPL := Lib.hid hs1.p.length; have HQL := Lib.hid hs1.q.length
  have HSD := Lib.hid (sdigest_any w1 T.n T.t ht A1 N1 C1 T.ps hs1.p hs1.po (by have := hok.pl; have := hs1.p.length; omega) hok.n0 hok.n1)
  have HAD := Lib.hid (adigest_any w1 T.m T.u T.v hu hv A2 N2 C2 T.qs hs1.q hs1.qo (by have := hok.ql; have := hs1.q.length; omega) hok.m0 hok.m1)
  have HSS : Hid ((Try.prog.info? 31).map (·.size) = some (staC T.n T.t (.slice A1 N1 C1)).length) := by show _ = _; rw [staC_len ht]; exact st_size
  have HAS : Hid ((Try.prog.info? 33).map (·.size) = some (actC T.m T.u T.v (.slice A2 N2 C2)).length) := by show _ = _; rw [actC_len hu hv]; exact ac_size
  obtain ⟨D, hD⟩ : ∃ D, dgT T = D := ⟨_, rfl⟩
  have HD := Lib.hid hD
  rw [hX, hD]
  clear hX hw1 hb1 kx kz h2 hm hs1 hD
  obtain ⟨k, hk⟩ : ∃ k, T.k = k := ⟨_, rfl⟩
  have HK := Lib.hid hk
  rw [hk] at c0
  clear hk
  go_enter Try.func28, Try.ntmps28
  go_upto_region 1 with fail
  rw [HW.out]
  by_cases h0 : k = 0
  · have HDD : Hid (D = ofI (stB T.t T.n T.ps)) := by show _ = _; rw [← HD.out, dgT, HK.out, if_pos h0]
    have e0 : (k == 0) = true := by simp [h0]
    have hrS := HM.out.rS
    clear h0
    go_wp2_with (with_reducible refine wpList_load_mid rfl 31 _ rfl w.heap.size 1 rfl (staC T.n T.t (.slice A1 N1 C1)) _ hrS Try.underlying31 rfl HSS.out ?_)
    refine HSD.out.mono ?_
    rintro e w2 ⟨rfl, hbn⟩
    have HZ2 := Lib.hid (HZ1.out.later hbn); have HB2 := Lib.hid (below_then HB1.out hbn)
    clear hbn hrS
    go_wp2_with (with_reducible refine stop_store 29 _ _ rfl ?_)
    refine StopD.go ?_
    refine wpList_store_part rfl 29 _ _ rfl (w.heap.size + 1) 0 (.agg (dl (ofI (stB T.t T.n T.ps))).toArray) (dl (ofI (stB T.t T.n T.ps))) rfl rfl rfl 29 [] (dl zeroD) [] (by simpa using HZ2.out) rfl ((dl_len zeroD).trans (zero_ok.len.trans (((ofI_ok (stB T.t T.n T.ps)).len).symm.trans (dl_len _).symm))) (dg_sz (ofI_ok (stB T.t T.n T.ps))) (dl_one _) ?_
    intro w9 hp
    have HZ9 : Hid (Bk w9 (w.heap.size + 1) 29 (dl (ofI (stB T.t T.n T.ps)))) := by show Bk _ _ _ _; have := hp.bk; simpa using this
    have HB9 := Lib.hid (below_only HB2.out hp.only HB2.out.size (by omega))
    clear hp
    go_wp2_with fail
    refine bodyPost_ret (thdig_ret (ofI_ok (stB T.t T.n T.ps)) HZ9.out _ rfl) rfl ?_
    rw [HDD.out]
    exact ⟨rfl, HB9.out⟩
  · have e0 : (k == 0) = false := by simp [h0]
    by_cases h1 : k = 1
    · have HDD : Hid (D = ofI (acB T.u T.m T.v T.qs)) := by show _ = _; rw [← HD.out, dgT, HK.out, if_neg h0, if_pos h1]
      have e1 : (k == 1) = true := by simp [h1]
      have hrA := HM.out.rA
      clear h0 h1
      go_wp2_with (with_reducible refine wpList_load_mid rfl 33 _ rfl w.heap.size 11 rfl (actC T.m T.u T.v (.slice A2 N2 C2)) _ hrA Try.underlying33 rfl HAS.out ?_)
      refine HAD.out.mono ?_
      rintro e w2 ⟨rfl, hbn⟩
      have HZ2 := Lib.hid (HZ1.out.later hbn); have HB2 := Lib.hid (below_then HB1.out hbn)
      clear hbn hrA
      go_wp2_with (with_reducible refine stop_store 29 _ _ rfl ?_)
      refine StopD.go ?_
      refine wpList_store_part rfl 29 _ _ rfl (w.heap.size + 1) 0 (.agg (dl (ofI (acB T.u T.m T.v T.qs))).toArray) (dl (ofI (acB T.u T.m T.v T.qs))) rfl rfl rfl 29 [] (dl zeroD) [] (by simpa using HZ2.out) rfl ((dl_len zeroD).trans (zero_ok.len.trans (((ofI_ok (acB T.u T.m T.v T.qs)).len).symm.trans (dl_len _).symm))) (dg_sz (ofI_ok (acB T.u T.m T.v T.qs))) (dl_one _) ?_
      intro w9 hp
      have HZ9 : Hid (Bk w9 (w.heap.size + 1) 29 (dl (ofI (acB T.u T.m T.v T.qs)))) := by show Bk _ _ _ _; have := hp.bk; simpa using this
      have HB9 := Lib.hid (below_only HB2.out hp.only HB2.out.size (by omega))
      clear hp
      go_wp2_with fail
      refine bodyPost_ret (thdig_ret (ofI_ok (acB T.u T.m T.v T.qs)) HZ9.out _ rfl) rfl ?_
      rw [HDD.out]
      exact ⟨rfl, HB9.out⟩
    · have HDD : Hid (D = zeroD) := by show _ = _; rw [← HD.out, dgT, HK.out, if_neg h0, if_neg h1]
      have e1 : (k == 1) = false := by simp [h1]
      clear h0 h1
      go_wp2_with (first
        | ((with_reducible refine wpList_build rfl 29 _ rfl #[] ?_ _ (z_dg _) ?_); focus (simp [Act.eval, Act.put]; done))
        | (with_reducible refine stop_store 29 _ _ rfl ?_))
      refine StopD.go ?_
      refine wpList_store_part rfl 29 _ _ rfl (w.heap.size + 1) 0 (.agg (dl (zeroD)).toArray) (dl (zeroD)) rfl rfl rfl 29 [] (dl zeroD) [] (by simpa using HZ1.out) rfl ((dl_len zeroD).trans (zero_ok.len.trans ((zero_ok.len).symm.trans (dl_len _).symm))) (dg_sz zero_ok) (dl_one _) ?_
      intro w9 hp
      have HZ9 : Hid (Bk w9 (w.heap.size + 1) 29 (dl (zeroD))) := by show Bk _ _ _ _; have := hp.bk; simpa using this
      have HB9 := Lib.hid (below_only HB1.out hp.only HB1.out.size (by omega))
      clear hp
      go_wp2_with fail
      refine bodyPost_ret (thdig_ret zero_ok HZ9.out _ rfl) rfl ?_
      rw [HDD.out]
      exact ⟨rfl, HB9.out⟩
end Go.Proofs.Ythibihjblodfmaa
