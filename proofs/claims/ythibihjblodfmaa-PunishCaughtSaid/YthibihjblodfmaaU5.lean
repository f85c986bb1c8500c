/- The document's things as lists of cells: their digests, and what two of them show. -/
import Derived.Test.YthibihjblodfmaaU1
namespace Go.Proofs.Ythibihjblodfmaa
open Go.RowKit Go.Maps

structure RtT where
  k : Int
  n : Int
  t : List Int
  v : List Int
  bs : List Int
  ss : List Int
  o : Bool
structure Rth (w : World) (cs : List Value) (R : RtT) : Prop where
  go : ∃ (A B : Option Addr) (N C M D : Nat), cs = rtC R.k R.n R.t R.v (.slice A N C) (.slice B M D) R.o ∧ Sl w w.heap.size 1 A N (R.bs.map (.int .u8)) ∧ Sl w w.heap.size 1 B M (R.ss.map (.int .u8))
  ht : DgOk R.t
  hv : DgOk R.v
  bo : ByOk R.bs
  so : ByOk R.ss
  n0 : -9223372036854775808 ≤ R.n
  n1 : R.n < 9223372036854775808
  bl : R.bs.length ≤ 1073741824
section
variable {w w' : World} {cs : List Value} {R : RtT}
theorem Rth.later (h : Rth w cs R) (hb : Below w.heap.size w w') : Rth w' cs R := by
  obtain ⟨⟨A, B, N, C, M, D, h1, h2, h3⟩, r1, r2, r3, r4, r5, r6, r7⟩ := h
  exact ⟨⟨A, B, N, C, M, D, h1, h2.later hb, h3.later hb⟩, r1, r2, r3, r4, r5, r6, r7⟩
theorem Rth.len (h : Rth w cs R) : cs.length = 21 := by
  obtain ⟨⟨A, B, N, C, M, D, h1, h2, h3⟩, a, b, _⟩ := h
  rw [h1, rtC_len a b]
theorem Rth.one (h : Rth w cs R) : ∀ x ∈ cs, x.oneCell' = true := by
  obtain ⟨⟨A, B, N, C, M, D, h1, h2, h3⟩, a, b, _⟩ := h
  rw [h1]; exact rt_one
theorem Rth.info (h : Rth w cs R) : (Try.prog.info? 25).map (·.size) = some cs.length := by rw [h.len]; exact rt_size
def rchk (R : RtT) : Int := rcheckT R.k R.n R.bs.length R.ss.length R.o
theorem rthCheck (h : Rth w cs R) : Calls Try.prog 31 #[.agg cs.toArray] w fun e w' => e = .returned (.int .i64 (rchk R)) ∧ Below w.heap.size w w' := by
  obtain ⟨⟨A, B, N, C, M, D, rfl, h2, h3⟩, a, b, _⟩ := h
  unfold rchk
  rw [h2.length, h3.length]
  exact rcheck_any w R.k R.n R.t R.v a b A B N C M D R.o
theorem rthAt (h : Rth w cs R) : Calls Try.prog 32 #[.agg cs.toArray] w fun e w' => e = .returned (.agg (dl (ratT R.k R.v)).toArray) ∧ Below w.heap.size w w' := by
  obtain ⟨⟨A, B, N, C, M, D, rfl, h2, h3⟩, a, b, _⟩ := h
  exact rat_any w R.k R.n R.t R.v a b A B N C M D R.o
end
def rdgR (R : RtT) : List Int := if R.k = 0 then ofI (stB R.t R.n R.bs) else if R.k = 1 then ofI (acB R.t R.n R.v R.bs) else zeroD
theorem rdgR_ok (R : RtT) : DgOk (rdgR R) := by
  unfold rdgR
  split
  · exact ofI_ok _
  · split
    · exact ofI_ok _
    · exact zero_ok
theorem z_rdg (W : World) : (Instr.build 22 #[]).run Try.prog W = .ok (.agg (dl zeroD).toArray) W := by kernel_rfl
theorem rdg_sz {t : List Int} (h : DgOk t) : (Try.prog.info? 22).map (·.size) = some (dl t).length := by rw [dl_len, h.len]; kernel_rfl
theorem rthdig_ret {w : World} {g : Nat} {t : List Int} (ht : DgOk t) (h : Bk w g 22 (dl t)) (tmps : Array Value) (h2 : tmps.getD 2 undef = .pointer (some ⟨g, 0, none⟩)) :
    (results Try.f34 tmps).run Try.prog w = .ok (.agg (dl t).toArray) w := by
  have r1 : w.rangeAt g 0 (dl t) := Bk.range (pre := []) (post := []) (by simpa using h) rfl
  have l1 := run_loadVar_mid (P := Try.prog) w g 0 22 (dl t) _ r1 Try.underlying22 rfl (rdg_sz ht)
  rw [Array.getD_eq_getD_getElem?] at h2
  simp [results, Try.results34, h2, asAddr, l1]
set_option maxRecDepth 20000 in
set_option maxHeartbeats 4000000 in
theorem rthDigest {w : World} {cs : List Value} {R : RtT} (h : Rth w cs R) : Calls Try.prog 34 #[.agg cs.toArray] w fun e w' => e = .returned (.agg (dl (rdgR R)).toArray) ∧ Below w.heap.size w w' := by
  obtain ⟨⟨A, B, N, C, M, D, rfl, h2, h3⟩, ht, hv, hbo, hso, n0, n1, bl⟩ := h
  obtain ⟨X, hX⟩ : ∃ X, (rtC R.k R.n R.t R.v (.slice A N C) (.slice B M D) R.o).toArray = X := ⟨_, rfl⟩
  obtain ⟨w1, hw1⟩ : ∃ w1, (w.alloc (.cells X 25)).alloc (.cells #[.int .u8 0, .int .u8 0, .int .u8 0, .int .u8 0, .int .u8 0, .int .u8 0, .int .u8 0, .int .u8 0] 22) = w1 := ⟨_, rfl⟩
  have hb1 : Below w.heap.size w w1 := hw1 ▸ (below_new w _).alloc (by simp) _
  have kx : Bk w1 w.heap.size 25 (rtC R.k R.n R.t R.v (.slice A N C) (.slice B M D) R.o) := hw1 ▸ (Bk.new' w _ X (by rw [← hX])).alloc _
  have kz : Bk w1 (w.heap.size + 1) 22 (dl zeroD) := hw1 ▸ Bk.at_ _ _ #[.int .u8 0, .int .u8 0, .int .u8 0, .int .u8 0, .int .u8 0, .int .u8 0, .int .u8 0, .int .u8 0] (by simp) rfl
  have HW := Lib.hid hw1; have HB1 := Lib.hid hb1; have HZ1 := Lib.hid kz
  have hm := rt_mem ht hv kx
  have HM := Lib.hid hm
  obtain ⟨c0, c9, c18, c19, c20, -, -⟩ := hm
  have hs1 := h2.later hb1
  have hl1 := hs1.length
  have HSB := Lib.hid (rbytesSt_any w1 R.t ht R.n A N C R.bs hs1 (by omega) n0 n1)
  have HAB := Lib.hid (rbytesAc_any w1 R.t R.v ht hv R.n A N C R.bs hs1 (by omega) n0 n1)
  have HSO := Lib.hid (stB_ok (n := R.n) ht hbo n0 n1 (by omega)); have HAO := Lib.hid (acB_ok (n := R.n) ht hv hbo n0 n1 (by omega))
  have HSL := Lib.hid (stB_le (n := R.n) (p := R.bs) ht); have HAL := Lib.hid (acB_le (n := R.n) (p := R.bs) ht hv)
  have HT := Lib.hid (rdg_sz ht); have HV := Lib.hid (rdg_sz hv)
  obtain ⟨Dg, hD⟩ : ∃ D, rdgR R = D := ⟨_, rfl⟩
  have HD := Lib.hid hD
  rw [hX, hD]
  clear hX hw1 hb1 kx kz h2 h3 hs1 hD
  obtain ⟨k, hk⟩ : ∃ k, R.k = k := ⟨_, rfl⟩
  have HK := Lib.hid hk
  rw [hk] at c0
  clear hk
  go_enter Try.func34, Try.ntmps34
  go_upto_region 1 with fail
  rw [HW.out]
  by_cases h0 : k = 0
  · have HDD : Hid (Dg = ofI (stB R.t R.n R.bs)) := by show _ = _; rw [← HD.out, rdgR, HK.out, if_pos h0]
    have e0 : (k == 0) = true := by simp [h0]
    have hr1 := HM.out.r1
    clear h0
    go_wp2_with (with_reducible refine wpList_load_mid rfl 22 _ rfl w.heap.size 1 rfl (dl R.t) _ hr1 Try.underlying22 rfl HT.out ?_)
    refine HSB.out.mono ?_
    obtain ⟨S, hS⟩ : ∃ S, stB R.t R.n R.bs = S := ⟨_, rfl⟩
    rw [hS] at HDD HSO HSL ⊢
    rintro e w2 ⟨v2, rfl, hown⟩
    have hbn : Below w1.heap.size w1 w2 := hown.2
    obtain ⟨A2, c2, rfl⟩ := hown.form
    have HS2 := Lib.hid (Sl.of_own hown.1)
    have HZ2 := Lib.hid (HZ1.out.later hbn); have HB2 := Lib.hid (below_then HB1.out hbn)
    clear hbn hr1 hown hS
    go_wp2_with fail
    refine (rof2_any w2 A2 S.length c2 S HS2.out HSO.out (by have := HSL.out; omega)).mono ?_
    rintro e w3 ⟨rfl, hbn⟩
    have HZ3 := Lib.hid (HZ2.out.later hbn); have HB3 := Lib.hid (below_then HB2.out hbn)
    clear hbn
    go_wp2_with (with_reducible refine stop_store 22 _ _ rfl ?_)
    refine StopD.go ?_
    refine wpList_store_part rfl 22 _ _ rfl (w.heap.size + 1) 0 (.agg (dl (ofI S)).toArray) (dl (ofI S)) rfl rfl rfl 22 [] (dl zeroD) [] (by simpa using HZ3.out) rfl ((dl_len zeroD).trans (zero_ok.len.trans (((ofI_ok S).len).symm.trans (dl_len _).symm))) (rdg_sz (ofI_ok S)) (dl_one _) ?_
    intro w9 hp
    have HZ9 : Hid (Bk w9 (w.heap.size + 1) 22 (dl (ofI S))) := by show Bk _ _ _ _; have := hp.bk; simpa using this
    have HB9 := Lib.hid (below_only HB3.out hp.only HB3.out.size (by omega))
    clear hp
    go_wp2_with fail
    refine bodyPost_ret (rthdig_ret (ofI_ok S) HZ9.out _ rfl) rfl ?_
    rw [HDD.out]
    exact ⟨rfl, HB9.out⟩
  · have e0 : (k == 0) = false := by simp [h0]
    by_cases h1 : k = 1
    · have HDD : Hid (Dg = ofI (acB R.t R.n R.v R.bs)) := by show _ = _; rw [← HD.out, rdgR, HK.out, if_neg h0, if_pos h1]
      have e1 : (k == 1) = true := by simp [h1]
      have hr1 := HM.out.r1
      have hr10 := HM.out.r10
      clear h0 h1
      go_wp2_with (first
        | (with_reducible refine wpList_load_mid rfl 22 _ rfl w.heap.size 1 rfl (dl R.t) _ hr1 Try.underlying22 rfl HT.out ?_)
        | (with_reducible refine wpList_load_mid rfl 22 _ rfl w.heap.size 10 rfl (dl R.v) _ hr10 Try.underlying22 rfl HV.out ?_))
      refine HAB.out.mono ?_
      obtain ⟨S, hS⟩ : ∃ S, acB R.t R.n R.v R.bs = S := ⟨_, rfl⟩
      rw [hS] at HDD HAO HAL ⊢
      rintro e w2 ⟨v2, rfl, hown⟩
      have hbn : Below w1.heap.size w1 w2 := hown.2
      obtain ⟨A2, c2, rfl⟩ := hown.form
      have HS2 := Lib.hid (Sl.of_own hown.1)
      have HZ2 := Lib.hid (HZ1.out.later hbn); have HB2 := Lib.hid (below_then HB1.out hbn)
      clear hbn hr1 hr10 hown hS
      go_wp2_with fail
      refine (rof2_any w2 A2 S.length c2 S HS2.out HAO.out (by have := HAL.out; omega)).mono ?_
      rintro e w3 ⟨rfl, hbn⟩
      have HZ3 := Lib.hid (HZ2.out.later hbn); have HB3 := Lib.hid (below_then HB2.out hbn)
      clear hbn
      go_wp2_with (with_reducible refine stop_store 22 _ _ rfl ?_)
      refine StopD.go ?_
      refine wpList_store_part rfl 22 _ _ rfl (w.heap.size + 1) 0 (.agg (dl (ofI S)).toArray) (dl (ofI S)) rfl rfl rfl 22 [] (dl zeroD) [] (by simpa using HZ3.out) rfl ((dl_len zeroD).trans (zero_ok.len.trans (((ofI_ok S).len).symm.trans (dl_len _).symm))) (rdg_sz (ofI_ok S)) (dl_one _) ?_
      intro w9 hp
      have HZ9 : Hid (Bk w9 (w.heap.size + 1) 22 (dl (ofI S))) := by show Bk _ _ _ _; have := hp.bk; simpa using this
      have HB9 := Lib.hid (below_only HB3.out hp.only HB3.out.size (by omega))
      clear hp
      go_wp2_with fail
      refine bodyPost_ret (rthdig_ret (ofI_ok S) HZ9.out _ rfl) rfl ?_
      rw [HDD.out]
      exact ⟨rfl, HB9.out⟩
    · have HDD : Hid (Dg = zeroD) := by show _ = _; rw [← HD.out, rdgR, HK.out, if_neg h0, if_neg h1]
      have e1 : (k == 1) = false := by simp [h1]
      clear h0 h1
      go_wp2_with (first
        | ((with_reducible refine wpList_build rfl 22 _ rfl #[] ?_ _ (z_rdg _) ?_); focus (simp [Act.eval, Act.put]; done))
        | (with_reducible refine stop_store 22 _ _ rfl ?_))
      refine StopD.go ?_
      refine wpList_store_part rfl 22 _ _ rfl (w.heap.size + 1) 0 (.agg (dl (zeroD)).toArray) (dl (zeroD)) rfl rfl rfl 22 [] (dl zeroD) [] (by simpa using HZ1.out) rfl ((dl_len zeroD).trans (zero_ok.len.trans ((zero_ok.len).symm.trans (dl_len _).symm))) (rdg_sz zero_ok) (dl_one _) ?_
      intro w9 hp
      have HZ9 : Hid (Bk w9 (w.heap.size + 1) 22 (dl (zeroD))) := by show Bk _ _ _ _; have := hp.bk; simpa using this
      have HB9 := Lib.hid (below_only HB1.out hp.only HB1.out.size (by omega))
      clear hp
      go_wp2_with fail
      refine bodyPost_ret (rthdig_ret zero_ok HZ9.out _ rfl) rfl ?_
      rw [HDD.out]
      exact ⟨rfl, HB9.out⟩
end Go.Proofs.Ythibihjblodfmaa
