/- What is wrong with a transaction: the program's Paid and Check. -/
import Derived.Test.YtbpmomedhdmloaaDoorB3
import Derived.Test.YtbpmomedhdmloaaDoorG1
import Derived.Test.YtbpmomedhdmloaaDoorHB
import Derived.Test.YtbpmomedhdmloaaDoorS2
namespace Go.Proofs.YtbpmomedhdmloaaDoor
set_option linter.unusedSimpArgs false
set_option linter.unusedVariables false
open Go.RowKit Go.Maps

theorem paid_ret {w : World} {g : Nat} {d : List Int} (hd : DgOk d) (h : Bk w g 28 (dl d)) (tmps : Array Value) (h2 : tmps.getD 2 undef = .pointer (some ⟨g, 0, none⟩)) {a e : Value} (h3 : tmps.getD 3 undef = a) (h4 : tmps.getD 4 undef = e) :
    (results Tryd.f39 tmps).run Tryd.prog w = .ok (.tuple #[.agg (dl d).toArray, a, e]) w := by
  have r1 : w.rangeAt g 0 (dl d) := Bk.range (pre := []) (post := []) (by simpa using h) rfl
  have l1 := run_loadVar_mid (P := Tryd.prog) w g 0 28 (dl d) _ r1 Tryd.underlying28 rfl (hdg_size _ hd)
  rw [Array.getD_eq_getD_getElem?] at h2 h3 h4
  simp [results, Tryd.results39, h2, h3, h4, asAddr, l1]
theorem build_d0 (w : World) : (Instr.build 28 #[]).run Tryd.prog w = .ok (.agg (dl zeroD).toArray) w := by kernel_rfl
set_option maxRecDepth 20000 in
set_option maxHeartbeats 2000000 in
theorem paid_any (w : World) (t : TxT) (hh : DgOk t.f) (A : Option Addr) (N C : Nat) (q : Value) (hs : Sl w w.heap.size 1 A N (t.b.map (.int .u8))) (hb : ByOk t.b) (hN : N ≤ 1073741824) (hk : t.k = 0) :
    Calls Tryd.prog 39 #[.agg (txC t (.slice A N C) q).toArray] w fun e w' => (∃ (d : List Int) (a : Int), e = .returned (.tuple #[.agg (dl d).toArray, .int .i64 a, .int .i64 (paidE t.b)]) ∧ DgOk d) ∧ Below w.heap.size w w' := by
  obtain ⟨l, hl⟩ : ∃ x, txC t (.slice A N C) q = x := ⟨_, rfl⟩
  obtain ⟨X, hX⟩ : ∃ X, l.toArray = X := ⟨_, rfl⟩
  obtain ⟨z, hz⟩ : ∃ z, w.heap.size = z := ⟨_, rfl⟩
  obtain ⟨w1, hw1⟩ : ∃ w1, (w.alloc (.cells X 47)).alloc (.cells #[.int .u8 0, .int .u8 0, .int .u8 0, .int .u8 0, .int .u8 0, .int .u8 0, .int .u8 0, .int .u8 0] 28) = w1 := ⟨_, rfl⟩
  have hb1 : Below w.heap.size w w1 := hw1 ▸ (below_new w _).alloc (by simp) _
  have kx : Bk w1 z 47 (txC t (.slice A N C) q) := hw1 ▸ (Bk.at_ w _ X hz (by rw [← hX, ← hl])).alloc _
  have kr : Bk w1 (z + 1) 28 ([] ++ (dl zeroD ++ [])) := hw1 ▸ Bk.at_ _ _ #[.int .u8 0, .int .u8 0, .int .u8 0, .int .u8 0, .int .u8 0, .int .u8 0, .int .u8 0, .int .u8 0] (by simp [hz]) rfl
  have hm := tx_mem hh kx
  have h10 := hm.c10; have h11 := hm.c11
  rw [hk] at h10
  simp only [Nat.zero_add] at h10 h11
  obtain ⟨P, hP⟩ : ∃ P, paidE t.b = P := ⟨_, rfl⟩
  have hnr := newReader_any w1 A N C t.b hb (hs.later hb1) hN
  obtain ⟨s0, hs0⟩ : ∃ s, (⟨t.b, 0⟩ : Rd) = s := ⟨_, rfl⟩
  have hPE : endR (numR (numR s0 18446744073709551615).1 1125899906842624).1 = P := by rw [← hP, ← hs0]; rfl
  rw [hP]
  rw [hs0] at hnr
  have HNR := Lib.hid hnr
  have HW := Lib.hid hw1; have HB1 := Lib.hid hb1; have HR1 := Lib.hid kr; have HZ := Lib.hid hz; have HPE := Lib.hid hPE
  rw [hl, hX]
  clear hl hX hw1 hb1 kx kr hm hs hb hh hk hP hs0 hPE hz hnr
  go_enter Tryd.func39, Tryd.ntmps39
  go_upto_region 1 with fail
  rw [HW.out, HZ.out]
  go_wp2_with fail
  refine HNR.out.mono ?_
  rintro e w2 ⟨⟨g, rfl, hgz, hr⟩, hbn⟩
  have HR2 := Lib.hid (HR1.out.later hbn); have HB2 := Lib.hid (below_then HB1.out hbn); have HD2 := Lib.hid hr
  have HGZ : Hid (z + 1 < g) := by have := HR1.out.lt; show z + 1 < g; omega
  clear hgz hr hbn HNR HR1 HB1 h10 h11
  go_wp2_with fail
  obtain ⟨R1, hR1⟩ : ∃ R, numR s0 18446744073709551615 = R := ⟨_, rfl⟩
  have hn := rdNum_any w2 g s0 HD2.out 18446744073709551615
  rw [hR1] at hn HPE
  clear hR1
  refine hn.mono ?_
  clear hn
  rintro e w3 ⟨rfl, hr, hg⟩
  have HR3 := Lib.hid (HR2.out.grown hg (by intro e; injection e with e; have := HGZ.out; omega)); have HB3 := Lib.hid (below_only HB2.out hg HB2.out.size (by have := HGZ.out; have := HZ.out; omega)); have HD3 := Lib.hid hr
  clear hr hg HR2 HB2 HD2
  go_wp2_with fail
  refine (from_any _ _).mono ?_
  rintro e w4 ⟨rfl, hbn⟩
  have HR4 := Lib.hid (HR3.out.later hbn); have HB4 := Lib.hid (below_then HB3.out hbn); have HD4 := Lib.hid (HD3.out.later hbn)
  have hdo : DgOk (fromG R1.2) := fromG_ok _
  rw [show dgA (fromG R1.2) = (dl (fromG R1.2)).toArray from rfl]
  obtain ⟨d, hd⟩ : ∃ d, fromG R1.2 = d := ⟨_, rfl⟩
  rw [hd] at hdo ⊢
  have HDO := Lib.hid hdo
  clear hd hdo hbn HR3 HB3 HD3
  go_wp2_with (with_reducible refine stop_store 28 _ _ rfl ?_)
  refine StopD.go ?_
  obtain ⟨g5, hg5⟩ : ∃ g, w4.heap.size = g := ⟨_, rfl⟩
  have hbn : Below w4.heap.size w4 (w4.alloc (.cells #[.int .u8 0, .int .u8 0, .int .u8 0, .int .u8 0, .int .u8 0, .int .u8 0, .int .u8 0, .int .u8 0] 28)) := below_new w4 _
  have kt : Bk (w4.alloc (.cells #[.int .u8 0, .int .u8 0, .int .u8 0, .int .u8 0, .int .u8 0, .int .u8 0, .int .u8 0, .int .u8 0] 28)) g5 28 ([] ++ (dl zeroD ++ [])) := by rw [← hg5]; exact Bk.new' w4 _ #[.int .u8 0, .int .u8 0, .int .u8 0, .int .u8 0, .int .u8 0, .int .u8 0, .int .u8 0, .int .u8 0] rfl
  rw [hg5]
  refine wpList_store_part rfl 28 _ _ rfl g5 0 (.agg (dl d).toArray) (dl d) rfl rfl rfl 28 [] (dl zeroD) [] kt rfl (by rw [dl_len, dl_len, HDO.out.len]; rfl) (hdg_size _ HDO.out) (dl_one' _) ?_
  intro w5 hp
  have hbn : Below w4.heap.size w4 w5 := hbn.grown hp.only hbn.size (fun q hq => by injection hq with hq; omega)
  have HT5 : Hid (Bk w5 g5 28 (dl d)) := by show Bk _ _ _ _; have := hp.bk; simpa using this
  clear hp kt hg5
  have HR5 := Lib.hid (HR4.out.later hbn); have HB5 := Lib.hid (below_then HB4.out hbn); have HD5 := Lib.hid (HD4.out.later hbn)
  clear hbn HR4 HB4 HD4
  go_wp2_with fail
  obtain ⟨R2, hR2⟩ : ∃ R, numR R1.1 1125899906842624 = R := ⟨_, rfl⟩
  have hn := rdNum_any w5 g R1.1 HD5.out 1125899906842624
  rw [hR2] at hn HPE
  clear hR2
  refine hn.mono ?_
  clear hn
  rintro e w6 ⟨rfl, hr, hg⟩
  have HG5 : Hid (g5 ≠ g) := by rintro rfl; obtain ⟨_, _, _, _, _, hb, _⟩ := HD5.out; have h1 := HT5.out; unfold Bk at h1 hb; rw [hb] at h1; injection h1 with h1; injection h1 with _ h1; cases h1
  have HR6 := Lib.hid (HR5.out.grown hg (by intro e; injection e with e; have := HGZ.out; omega)); have HB6 := Lib.hid (below_only HB5.out hg HB5.out.size (by have := HGZ.out; have := HZ.out; omega)); have HD6 := Lib.hid hr
  have HT6 := Lib.hid (HT5.out.grown hg (by intro e; injection e with e; exact HG5.out e))
  clear hr hg HR5 HB5 HD5 HT5
  go_wp2_with fail
  refine (rdEnd_any _ _ _ HD6.out).mono ?_
  rintro e w7 ⟨rfl, q7, rfl⟩
  rw [HPE.out]
  have HB7 : Hid (Below w.heap.size w (w6.drewN q7)) := below_then HB6.out (below_draws _ _ _)
  obtain ⟨w7, hw7⟩ : ∃ w7, w6.drewN q7 = w7 := ⟨_, rfl⟩
  have HR7 : Hid (Bk w7 (z + 1) 28 ([] ++ (dl zeroD ++ []))) := by rw [← hw7]; exact HR6.out.drewN _
  have HT7 : Hid (Bk w7 g5 28 (dl d)) := by rw [← hw7]; exact HT6.out.drewN _
  rw [hw7] at HB7 ⊢
  clear hw7 HR6 HB6 HD6 HT6
  by_cases hP0 : P = 0
  · have hd : decide (P = 0) = true := by simp [hP0]
    have hd2 : (P == 0) = true := by simp [hP0]
    have hd3 : (P != 0) = false := by simp [hP0]
    have HP0 := Lib.hid hP0
    clear hP0
    go_wp2_with (first
      | (with_reducible refine wpList_load_bk rfl 28 _ rfl g5 rfl (dl d) 28 HT7.out _ Tryd.underlying28 rfl (hdg_size _ HDO.out) ?_)
      | (with_reducible refine stop_store 28 _ _ rfl ?_))
    refine StopD.go ?_
    refine wpList_store_part rfl 28 _ _ rfl (z + 1) 0 (.agg (dl d).toArray) (dl d) rfl rfl rfl 28 [] (dl zeroD) [] HR7.out rfl (by rw [dl_len, dl_len, HDO.out.len]; rfl) (hdg_size _ HDO.out) (dl_one' _) ?_
    intro w8 hp
    have HT8 : Hid (Bk w8 (z + 1) 28 (dl d)) := by show Bk _ _ _ _; have := hp.bk; simpa using this
    have HB8 := Lib.hid (below_only HB7.out hp.only HB7.out.size (by have := HZ.out; omega))
    clear hp
    go_wp2_with fail
    refine bodyPost_ret (paid_ret HDO.out HT8.out _ rfl rfl rfl) rfl ?_
    exact ⟨⟨d, wrap64 R2.2, by rw [HP0.out]; rfl, HDO.out⟩, HB8.out⟩
  · have hd : decide (P = 0) = false := by simp [hP0]
    have hd2 : (P == 0) = false := by simp [hP0]
    have hd3 : (P != 0) = true := by simp [hP0]
    clear hP0
    go_wp2_with (first
      | ((with_reducible refine wpList_build rfl 28 _ rfl #[] ?_ _ (build_d0 _) ?_); focus (simp [Act.eval, Act.put]; done))
      | (with_reducible refine stop_store 28 _ _ rfl ?_))
    refine StopD.go ?_
    refine wpList_store_part rfl 28 _ _ rfl (z + 1) 0 (.agg (dl zeroD).toArray) (dl zeroD) rfl rfl rfl 28 [] (dl zeroD) [] HR7.out rfl rfl (hdg_size _ zero_ok) (dl_one' _) ?_
    intro w8 hp
    have HT8 : Hid (Bk w8 (z + 1) 28 (dl zeroD)) := by show Bk _ _ _ _; have := hp.bk; simpa using this
    have HB8 := Lib.hid (below_only HB7.out hp.only HB7.out.size (by have := HZ.out; omega))
    clear hp
    go_wp2_with fail
    refine bodyPost_ret (paid_ret zero_ok HT8.out _ rfl rfl rfl) rfl ?_
    exact ⟨⟨zeroD, 0, rfl, zero_ok⟩, HB8.out⟩
theorem fit_eq {t : TxT} {N M : Nat} (hN : t.b.length = N) (hM : t.s.length = M) : txFit t = (uptoB t.n 1099511627776 && (uptoB t.e 1125899906842624 && (uptoB t.k 2 && (uptoB N 32768 && uptoB M 1024)))) := by
  subst hN hM
  rw [Bool.eq_iff_iff]
  simp only [txFit, uptoB, Bool.and_eq_true, decide_eq_true_eq]
  omega
theorem tx_size : (Tryd.prog.info? 47).map (·.size) = some 13 := by kernel_rfl
theorem tx_sz {t : TxT} (hh : DgOk t.f) (p q : Value) : (Tryd.prog.info? 47).map (·.size) = some (txC t p q).length := by rw [txC_len hh]; exact tx_size
set_option maxRecDepth 20000 in
set_option maxHeartbeats 2000000 in
theorem txCheck_any (w : World) (t : TxT) (hh : DgOk t.f) (A B : Option Addr) (N C M D : Nat) (hs : Sl w w.heap.size 1 A N (t.b.map (.int .u8))) (hq : Sl w w.heap.size 1 B M (t.s.map (.int .u8))) (hb : ByOk t.b) :
    Calls Tryd.prog 17 #[.agg (txC t (.slice A N C) (.slice B M D)).toArray] w fun e w' => e = .returned (.int .i64 (txE t)) ∧ Below w.heap.size w w' := by
  have hsl := hs.length; have hql := hq.length
  have HPA := Lib.hid (fun (w' : World) (h1 : Sl w' w'.heap.size 1 A N (t.b.map (.int .u8))) (h2 : N ≤ 1073741824) (h3 : t.k = 0) => paid_any w' t hh A N C (.slice B M D) h1 hb h2 h3)
  have HSZ := Lib.hid (tx_sz hh (.slice A N C) (.slice B M D))
  obtain ⟨l, hl⟩ : ∃ x, txC t (.slice A N C) (.slice B M D) = x := ⟨_, rfl⟩
  obtain ⟨X, hX⟩ : ∃ X, l.toArray = X := ⟨_, rfl⟩
  obtain ⟨z, hz⟩ : ∃ z, w.heap.size = z := ⟨_, rfl⟩
  obtain ⟨w1, hw1⟩ : ∃ w1, w.alloc (.cells X 47) = w1 := ⟨_, rfl⟩
  have hb1 : Below w.heap.size w w1 := hw1 ▸ below_new w _
  have kx : Bk w1 z 47 l := hw1 ▸ Bk.at_ w _ X hz (by rw [← hX])
  have hm := tx_mem hh (by rw [hl]; exact kx)
  have h8 := hm.c8; have h9 := hm.c9; have h10 := hm.c10; have h11 := hm.c11; have h12 := hm.c12
  simp only [Nat.zero_add] at h8 h9 h10 h11 h12
  have HW := Lib.hid hw1; have HB1 := Lib.hid hb1; have HZ := Lib.hid hz; have HK1 := Lib.hid kx; have HS1 := Lib.hid (hs.later hb1); have HXE := Lib.hid hX
  rw [hl] at HPA HSZ ⊢
  rw [hX] at HPA ⊢
  clear hl hX hw1 hb1 kx hm hs hq hb hh hz
  cases hu1 : uptoB t.n 1099511627776
  · have HU1 := Lib.hid hu1
    clear hu1
    go_enter Tryd.func17, Tryd.ntmps17
    go_upto_region 1 with fail
    rw [HW.out, HZ.out]
    go_wp2_with fail
    refine (upto_any _ _ _).mono ?_
    rintro e wq ⟨rfl, hwq⟩
    subst hwq
    rw [show uptoB t.n 1099511627776 = false from HU1.out]
    have HT : Hid (txE t = 2) := by
      show _ = _
      rw [txE, fit_eq hsl hql, HU1.out]
      rfl
    go_wp2_with fail
    go_ret
    exact ⟨by rw [HT.out]; rfl, HB1.out⟩
  have HU1 := Lib.hid hu1
  clear hu1
  cases hu2 : uptoB t.e 1125899906842624
  · have HU2 := Lib.hid hu2
    clear hu2
    go_enter Tryd.func17, Tryd.ntmps17
    go_upto_region 1 with fail
    rw [HW.out, HZ.out]
    go_wp2_with fail
    refine (upto_any _ _ _).mono ?_
    rintro e wq ⟨rfl, hwq⟩
    subst hwq
    rw [show uptoB t.n 1099511627776 = true from HU1.out]
    go_wp2_with fail
    refine (upto_any _ _ _).mono ?_
    rintro e wq ⟨rfl, hwq⟩
    subst hwq
    rw [show uptoB t.e 1125899906842624 = false from HU2.out]
    have HT : Hid (txE t = 2) := by
      show _ = _
      rw [txE, fit_eq hsl hql, HU1.out, HU2.out]
      rfl
    go_wp2_with fail
    go_ret
    exact ⟨by rw [HT.out]; rfl, HB1.out⟩
  have HU2 := Lib.hid hu2
  clear hu2
  cases hu3 : uptoB t.k 2
  · have HU3 := Lib.hid hu3
    clear hu3
    go_enter Tryd.func17, Tryd.ntmps17
    go_upto_region 1 with fail
    rw [HW.out, HZ.out]
    go_wp2_with fail
    refine (upto_any _ _ _).mono ?_
    rintro e wq ⟨rfl, hwq⟩
    subst hwq
    rw [show uptoB t.n 1099511627776 = true from HU1.out]
    go_wp2_with fail
    refine (upto_any _ _ _).mono ?_
    rintro e wq ⟨rfl, hwq⟩
    subst hwq
    rw [show uptoB t.e 1125899906842624 = true from HU2.out]
    go_wp2_with fail
    refine (upto_any _ _ _).mono ?_
    rintro e wq ⟨rfl, hwq⟩
    subst hwq
    rw [show uptoB t.k 2 = false from HU3.out]
    have HT : Hid (txE t = 2) := by
      show _ = _
      rw [txE, fit_eq hsl hql, HU1.out, HU2.out, HU3.out]
      rfl
    go_wp2_with fail
    go_ret
    exact ⟨by rw [HT.out]; rfl, HB1.out⟩
  have HU3 := Lib.hid hu3
  clear hu3
  cases hu4 : uptoB N 32768
  · have HU4 := Lib.hid hu4
    clear hu4
    go_enter Tryd.func17, Tryd.ntmps17
    go_upto_region 1 with fail
    rw [HW.out, HZ.out]
    go_wp2_with fail
    refine (upto_any _ _ _).mono ?_
    rintro e wq ⟨rfl, hwq⟩
    subst hwq
    rw [show uptoB t.n 1099511627776 = true from HU1.out]
    go_wp2_with fail
    refine (upto_any _ _ _).mono ?_
    rintro e wq ⟨rfl, hwq⟩
    subst hwq
    rw [show uptoB t.e 1125899906842624 = true from HU2.out]
    go_wp2_with fail
    refine (upto_any _ _ _).mono ?_
    rintro e wq ⟨rfl, hwq⟩
    subst hwq
    rw [show uptoB t.k 2 = true from HU3.out]
    go_wp2_with fail
    refine (upto_any _ _ _).mono ?_
    rintro e wq ⟨rfl, hwq⟩
    subst hwq
    rw [show uptoB N 32768 = false from HU4.out]
    have HT : Hid (txE t = 2) := by
      show _ = _
      rw [txE, fit_eq hsl hql, HU1.out, HU2.out, HU3.out, HU4.out]
      rfl
    go_wp2_with fail
    go_ret
    exact ⟨by rw [HT.out]; rfl, HB1.out⟩
  have HU4 := Lib.hid hu4
  clear hu4
  cases hu5 : uptoB M 1024
  · have HU5 := Lib.hid hu5
    clear hu5
    go_enter Tryd.func17, Tryd.ntmps17
    go_upto_region 1 with fail
    rw [HW.out, HZ.out]
    go_wp2_with fail
    refine (upto_any _ _ _).mono ?_
    rintro e wq ⟨rfl, hwq⟩
    subst hwq
    rw [show uptoB t.n 1099511627776 = true from HU1.out]
    go_wp2_with fail
    refine (upto_any _ _ _).mono ?_
    rintro e wq ⟨rfl, hwq⟩
    subst hwq
    rw [show uptoB t.e 1125899906842624 = true from HU2.out]
    go_wp2_with fail
    refine (upto_any _ _ _).mono ?_
    rintro e wq ⟨rfl, hwq⟩
    subst hwq
    rw [show uptoB t.k 2 = true from HU3.out]
    go_wp2_with fail
    refine (upto_any _ _ _).mono ?_
    rintro e wq ⟨rfl, hwq⟩
    subst hwq
    rw [show uptoB N 32768 = true from HU4.out]
    go_wp2_with fail
    refine (upto_any _ _ _).mono ?_
    rintro e wq ⟨rfl, hwq⟩
    subst hwq
    rw [show uptoB M 1024 = false from HU5.out]
    have HT : Hid (txE t = 2) := by
      show _ = _
      rw [txE, fit_eq hsl hql, HU1.out, HU2.out, HU3.out, HU4.out, HU5.out]
      rfl
    go_wp2_with fail
    go_ret
    exact ⟨by rw [HT.out]; rfl, HB1.out⟩
  have HU5 := Lib.hid hu5
  clear hu5
  have HF : Hid (txFit t = true) := by
    show _ = _
    rw [fit_eq hsl hql, HU1.out, HU2.out, HU3.out, HU4.out, HU5.out]
    rfl
  have hN : N ≤ 1073741824 := by
    have h := HU4.out
    unfold uptoB at h
    simp only [Bool.and_eq_true, decide_eq_true_eq] at h
    omega
  by_cases hk : t.k = 0
  · have hk1 : (t.k == 0) = true := by simp [hk]
    have HP := Lib.hid (HPA.out w1 HS1.out hN hk)
    have HT : Hid (txE t = paidE t.b) := by
      show _ = _
      rw [txE, if_pos HF.out, if_pos hk]
    have hk2 : decide (t.k = 0) = true := by simp [hk]
    clear hk
    go_enter Tryd.func17, Tryd.ntmps17
    go_upto_region 1 with fail
    rw [HW.out, HZ.out]
    go_wp2_with fail
    refine (upto_any _ _ _).mono ?_
    rintro e wq ⟨rfl, hwq⟩
    subst hwq
    rw [show uptoB t.n 1099511627776 = true from HU1.out]
    go_wp2_with fail
    refine (upto_any _ _ _).mono ?_
    rintro e wq ⟨rfl, hwq⟩
    subst hwq
    rw [show uptoB t.e 1125899906842624 = true from HU2.out]
    go_wp2_with fail
    refine (upto_any _ _ _).mono ?_
    rintro e wq ⟨rfl, hwq⟩
    subst hwq
    rw [show uptoB t.k 2 = true from HU3.out]
    go_wp2_with fail
    refine (upto_any _ _ _).mono ?_
    rintro e wq ⟨rfl, hwq⟩
    subst hwq
    rw [show uptoB N 32768 = true from HU4.out]
    go_wp2_with fail
    refine (upto_any _ _ _).mono ?_
    rintro e wq ⟨rfl, hwq⟩
    subst hwq
    rw [show uptoB M 1024 = true from HU5.out]
    go_wp2_with (with_reducible refine wpList_load_bk rfl 47 _ rfl z rfl l 47 HK1.out _ Tryd.underlying47 rfl HSZ.out ?_)
    rw [HXE.out]
    refine HP.out.mono ?_
    rintro e w2 ⟨⟨d, a, rfl, hd⟩, hbn⟩
    have HB2 := Lib.hid (below_then HB1.out hbn); have HDO := Lib.hid hd
    clear hbn hd
    go_wp2_with (with_reducible refine stop_store 28 _ _ rfl ?_)
    refine StopD.go ?_
    obtain ⟨g3, hg3⟩ : ∃ g, w2.heap.size = g := ⟨_, rfl⟩
    have hbn : Below w2.heap.size w2 (w2.alloc (.cells #[.int .u8 0, .int .u8 0, .int .u8 0, .int .u8 0, .int .u8 0, .int .u8 0, .int .u8 0, .int .u8 0] 28)) := below_new w2 _
    have kt : Bk (w2.alloc (.cells #[.int .u8 0, .int .u8 0, .int .u8 0, .int .u8 0, .int .u8 0, .int .u8 0, .int .u8 0, .int .u8 0] 28)) g3 28 ([] ++ (dl zeroD ++ [])) := by rw [← hg3]; exact Bk.new' w2 _ #[.int .u8 0, .int .u8 0, .int .u8 0, .int .u8 0, .int .u8 0, .int .u8 0, .int .u8 0, .int .u8 0] rfl
    rw [hg3]
    refine wpList_store_part rfl 28 _ _ rfl g3 0 (.agg (dl d).toArray) (dl d) rfl rfl rfl 28 [] (dl zeroD) [] kt rfl (by rw [dl_len, dl_len, HDO.out.len]; rfl) (hdg_size _ HDO.out) (dl_one' _) ?_
    intro w3 hp
    have hbn : Below w2.heap.size w2 w3 := hbn.grown hp.only hbn.size (fun q hq => by injection hq with hq; omega)
    have HT3 : Hid (Bk w3 g3 28 (dl d)) := by show Bk _ _ _ _; have := hp.bk; simpa using this
    clear hp kt hg3
    have HB3 := Lib.hid (below_then HB2.out hbn)
    clear hbn
    go_wp2_with fail
    go_ret
    exact ⟨by rw [HT.out]; rfl, HB3.out⟩
  · have hk1 : (t.k == 0) = false := by simp [hk]
    have hk2 : decide (t.k = 0) = false := by simp [hk]
    have HT : Hid (txE t = 0) := by
      show _ = _
      rw [txE, if_pos HF.out, if_neg hk]
    clear hk
    go_enter Tryd.func17, Tryd.ntmps17
    go_upto_region 1 with fail
    rw [HW.out, HZ.out]
    go_wp2_with fail
    refine (upto_any _ _ _).mono ?_
    rintro e wq ⟨rfl, hwq⟩
    subst hwq
    rw [show uptoB t.n 1099511627776 = true from HU1.out]
    go_wp2_with fail
    refine (upto_any _ _ _).mono ?_
    rintro e wq ⟨rfl, hwq⟩
    subst hwq
    rw [show uptoB t.e 1125899906842624 = true from HU2.out]
    go_wp2_with fail
    refine (upto_any _ _ _).mono ?_
    rintro e wq ⟨rfl, hwq⟩
    subst hwq
    rw [show uptoB t.k 2 = true from HU3.out]
    go_wp2_with fail
    refine (upto_any _ _ _).mono ?_
    rintro e wq ⟨rfl, hwq⟩
    subst hwq
    rw [show uptoB N 32768 = true from HU4.out]
    go_wp2_with fail
    refine (upto_any _ _ _).mono ?_
    rintro e wq ⟨rfl, hwq⟩
    subst hwq
    rw [show uptoB M 1024 = true from HU5.out]
    go_wp2_with fail
    go_ret
    exact ⟨by rw [HT.out]; rfl, HB1.out⟩
end Go.Proofs.YtbpmomedhdmloaaDoor
