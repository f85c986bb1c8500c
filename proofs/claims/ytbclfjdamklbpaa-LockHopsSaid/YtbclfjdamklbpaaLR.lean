/- Hop by hop: the walk of LockHops. -/
import Derived.Test.YtbclfjdamklbpaaLQ
namespace Go.Proofs.Ytbclfjdamklbpaa
set_option linter.unusedSimpArgs false
set_option linter.unusedVariables false
open Go.RowKit Go.Maps

def nmL (L : LkT) : List Int := nmI L.k.toNat L.h L.ks L.s.toNat L.c.toNat
theorem lk_nats {L : LkT} {N : Nat} (hn : N ≤ 1000) (hc : checkL L.k L.s L.c L.u N = 0) : ∃ k s c : Nat, L.k = k ∧ L.s = s ∧ L.c = c ∧ k < 4611686018427387904 ∧ s < 4611686018427387904 ∧ c < 4611686018427387904 := by
  obtain ⟨e1, e2, e3, e4, e5⟩ := checkL_zero hc
  refine ⟨L.k.toNat, L.s.toNat, L.c.toNat, ?_, ?_, ?_, ?_, ?_, ?_⟩
  all_goals rcases e5 with e | e <;> omega
theorem lname_L (w : World) (L : LkT) (A : Option Addr) (N C : Nat) (hk : LkK w L A N) (hc : checkL L.k L.s L.c L.u N = 0) :
    Calls Try.prog 18 #[.agg (lkC L (.slice A N C)).toArray] w fun e w' => e = .returned (.agg (dl (nmL L)).toArray) ∧ Below w.heap.size w w' := by
  obtain ⟨k, s, c, h1, h2, h3, b1, b2, b3⟩ := lk_nats hk.n hc
  obtain ⟨lk, h, ks, ls, lc, u⟩ := L
  simp only at h1 h2 h3
  subst h1; subst h2; subst h3
  exact lname_any w k s c u h ks A N C hk b1 b2 b3
theorem fits_L (w : World) (L : LkT) (u' : Int) (A B : Option Addr) (N C D : Nat) (win : Int) (hk : LkK w L A N) (hk' : LkK w ⟨L.k, L.h, L.ks, L.s, L.c, u'⟩ B N) (hc : checkL L.k L.s L.c L.u N = 0) (hc' : checkL L.k L.s L.c u' N = 0) :
    Calls Try.prog 19 #[.agg (lkC L (.slice A N C)).toArray, .agg (lkC ⟨L.k, L.h, L.ks, L.s, L.c, u'⟩ (.slice B N D)).toArray, .int .i64 win] w fun e w' => e = .returned (.int .i64 (fitsI (L.u - u') win)) ∧ Below w.heap.size w w' := by
  obtain ⟨k, s, c, h1, h2, h3, b1, b2, b3⟩ := lk_nats hk.n hc
  obtain ⟨lk, h, ks, ls, lc, u⟩ := L
  simp only at h1 h2 h3
  subst h1; subst h2; subst h3
  exact fits_ok w k s c u u' h ks A B N C D win hk hk' hc hc'
theorem checkL_u {k s c u u' : Int} {n : Nat} (h : checkL k s c u n = 0) (h0 : 0 ≤ u') (h1 : u' ≤ u) : checkL k s c u' n = 0 := by
  obtain ⟨e1, e2, e3, e4, e5⟩ := checkL_zero h
  unfold checkL
  rcases e5 with ⟨f1, f2, f3⟩ | ⟨f1, f2, f3, f4, f5⟩
  · rw [if_neg (by omega), if_neg (by omega), if_pos f1, if_neg (by omega), if_neg (by omega)]
  · rw [if_neg (by omega), if_neg (by omega), if_neg (by omega), if_neg (by omega), if_neg (by omega)]
theorem hopC_12 {L : LkT} (hh : DgOk L.h) (n : Nat) (x : Hop) : (hopC L n x)[12]? = some (.int .i64 x.u) := by
  have := (lk_mem (L := hopL L x) (p := .slice x.A n x.c) (ty := 0) (w := World.alloc default (.cells (hopC L n x).toArray 0)) hh (Bk.at_ _ _ _ rfl rfl)).c12
  rw [(Bk.at_ (default : World) _ (hopC L n x).toArray rfl rfl : Bk (World.alloc default (.cells (hopC L n x).toArray 0)) _ 0 (hopC L n x)).cell] at this
  exact this
theorem goodL_key {L : LkT} (h : L.k = 0) : goodL L = eqL (oneI zeroD) L.h := by simp [goodL, h, eqL]
theorem goodL_out {L : LkT} (h : L.k ≠ 0) : goodL L = true := by simp [goodL, h]
theorem hopO_key {es : List Ent} {L : LkT} {n : Nat} {zs : List Int} {ps : List Pc} (x : Hop) (hc : checkL L.k L.s L.c x.u n = 0) (hk : L.k = 0) (now : Int) : openO es (hopL L x) n now zeroD zs ps = hopO L x now := by
  rw [openO_key (L := hopL L x) hc hk, hopO, goodL_key hk, keyO]
  by_cases h : oneI zeroD = L.h
  · rw [if_pos (show oneI zeroD = (hopL L x).h from h)]
    simp [eqL, h, hopL]; rfl
  · rw [if_neg (show ¬ oneI zeroD = (hopL L x).h from h)]
    simp [eqL, h, hopL]; rfl
theorem hopO_out {es : List Ent} {L : LkT} {n : Nat} {ps : List Pc} (x : Hop) (hc : checkL L.k L.s L.c x.u n = 0) (hk : L.k ≠ 0) (ha : allB es (msgO L.h (zerosI n)) L.ks ps [] = true) (now : Int) : openO es (hopL L x) n now zeroD (zerosI n) ps = hopO L x now := by
  rw [openO_all (L := hopL L x) hc hk rfl ha, hopO, goodL_out hk, if_pos rfl]
  rfl
set_option maxRecDepth 20000 in
set_option maxHeartbeats 8000000 in
theorem lhops_any (w : World) (L : LkT) (hh : DgOk L.h) (A : Option Addr) (N C : Nat) (hC : N ≤ C) (hN : N ≤ 9223372036854775807) (i1 i2 : Int) :
    Calls Try.prog 5 #[.agg (lkC L (.slice A N C)).toArray, .int .i64 i1, .int .i64 i2] w fun e w' => e = .returned (.bool true) ∧ Below w.heap.size w w' := by
  have HFX := Lib.hid (fun w' => fix_any w' L hh A N C hC hN)
  have HFF := Lib.hid (fixL_facts L N)
  have HF1 : Hid ((fixL L N).k ≠ 0 → (fixL L N).k = 1 ∧ 2 ≤ fixN L N ∧ 0 ≤ (fixL L N).s ∧ (fixL L N).s < fixN L N ∧ 1 ≤ (fixL L N).c) := fixL_one
  have HLS0 := Lib.hid (lk_sz hh (.slice A N C))
  have HLN0 := Lib.hid (lkC_len hh (.slice A N C))
  have HFH : Hid (DgOk (fixL L N).h) := by show DgOk _; rw [(fixL_facts L N).1]; exact hh
  obtain ⟨l, hl⟩ : ∃ x, lkC L (.slice A N C) = x := ⟨_, rfl⟩
  obtain ⟨X, hX⟩ : ∃ X, l.toArray = X := ⟨_, rfl⟩
  obtain ⟨z, hzz⟩ : ∃ z, w.heap.size = z := ⟨_, rfl⟩
  obtain ⟨w1, hw1⟩ : ∃ w1, w.alloc (.cells X 26) = w1 := ⟨_, rfl⟩
  have hb1 : Below w.heap.size w w1 := hw1 ▸ below_new w _
  have kx : Bk w1 z 26 l := hw1 ▸ Bk.at_ w _ X hzz (by rw [← hX])
  have HW := Lib.hid hw1; have HB1 := Lib.hid hb1; have HL1 := Lib.hid kx; have HZ := Lib.hid hzz
  rw [hl] at HFX HLS0 HLN0 ⊢
  rw [hX] at HFX ⊢
  obtain ⟨LF, hLF⟩ : ∃ x, fixL L N = x := ⟨_, rfl⟩
  obtain ⟨n, hn⟩ : ∃ x, fixN L N = x := ⟨_, rfl⟩
  unfold RetFx at HFX
  rw [hLF, hn] at HFX HFF HF1
  rw [hLF] at HFH
  have HXE := Lib.hid hX
  clear hl hX hw1 hb1 kx hh hzz hLF hn
  go_enter Try.func5, Try.ntmps5
  go_upto_region 1 with fail
  rw [HW.out, HZ.out]
  go_wp2_with (with_reducible refine wpList_load_bk rfl 26 _ rfl z rfl l 26 HL1.out _ Try.underlying26 rfl HLS0.out ?_)
  rw [HXE.out]
  refine (HFX.out w1).mono ?_
  rintro e w3 ⟨A', C', rfl, hown, hbn⟩
  have HB3 := Lib.hid (below_then HB1.out hbn); have HL3 := Lib.hid (HL1.out.later hbn); have HK3 := Lib.hid (own_base hown HB1.out.size)
  clear hown hbn HL1 HFX
  go_wp2_with (with_reducible refine stop_store 26 _ _ rfl ?_)
  refine StopD.go ?_
  refine wpList_store_part rfl 26 _ _ rfl z 0 (.agg (lkC LF (.slice A' n C')).toArray) (lkC LF (.slice A' n C')) rfl rfl rfl 26 [] l [] (by simpa using HL3.out) rfl (by rw [lkC_len HFH.out, HLN0.out]) (lk_sz HFH.out _) (lk_one _ _ _ _) ?_
  intro w4 hp
  have HL4 : Hid (Bk w4 z 26 (lkC LF (.slice A' n C'))) := by show Bk _ _ _ _; have := hp.bk; simpa using this
  have HK4 := Lib.hid (own_only HK3.out hp.only (own_bk_ne HK3.out HL3.out (by decide)))
  have HB4 := Lib.hid (below_only HB3.out hp.only HB3.out.size (Nat.le_of_eq HZ.out))
  clear hp HB3 HL3 HK3
  have HNB : Hid (n ≤ 8 ∧ 1 ≤ LF.c ∧ LF.c ≤ 1000 ∧ 0 ≤ LF.u ∧ LF.u < 2000) := by
    have h1 := HFF.out
    obtain ⟨e1, _, e3, _, _⟩ := checkL_zero h1.2.2.2.2.1
    exact ⟨h1.2.2.1, e1, h1.2.2.2.2.2.1, e3, h1.2.2.2.2.2.2⟩
  have HKO : Hid (DsOk LF.ks) := HFF.out.2.1
  have HKL : Hid (LF.ks.length = n) := HFF.out.2.2.2.1
  have HCZ : Hid (checkL LF.k LF.s LF.c LF.u n = 0) := HFF.out.2.2.2.2.1
  have HSL := Lib.hid (lk_sz HFH.out (.slice A' n C'))
  clear HFF HB1
  have HWI : Hid (1 ≤ 1 + modI i1 300 ∧ 1 + modI i1 300 ≤ 300) := by show _ ∧ _; have := modI_lt i1 (n := 300) (by decide); omega
  have hm1 := modI_run i1 300 (by decide) (by decide)
  have hw1 : IntKind.i64.wrap (1 + modI i1 300) = 1 + modI i1 300 := by clear hm1; rw [IntWalk.i64_in]; have := HWI.out; omega
  have hw2 : wrap64 (1 + modI i1 300) = 1 + modI i1 300 := IntWalk.wrap64_in _ (by clear hm1; have := HWI.out; omega)
  obtain ⟨y, hy⟩ : ∃ y, modI i1 300 = y := ⟨_, rfl⟩
  rw [hy] at hm1 hw1 hw2 HWI
  clear hy
  go_upto_region 3 with fail
  clear hm1 hw1 hw2
  obtain ⟨win, hwin⟩ : ∃ x, 1 + y = x := ⟨_, rfl⟩
  rw [hwin] at HWI ⊢
  clear hwin
  go_cut [8] (fun v wx => ∃ (b0 : Nat), v = .slice (some ⟨b0, 0, none⟩) 1 1 ∧ Hid (HpS w wx z LF A' n C' b0 v [⟨LF.u, A', C'⟩] win))
  case first =>
    as_aux_lemma =>
    go_wp2_with (first
      | (with_reducible refine wpList_load_bk rfl 26 _ rfl z rfl (lkC LF (.slice A' n C')) 26 HL4.out _ Try.underlying26 rfl HSL.out ?_)
      | (with_reducible refine stop_bs 48 _ _ rfl ?_))
    refine StopD.go ?_
    refine wpList_bsliceG rfl 48 1 _ rfl #[(0, .agg (lkC LF (.slice A' n C')).toArray)] ?_ 26 (lkC LF (.slice A' n C')) (fun w => bs_lk1 HFH.out A' n C' w) ?_
    · simp [Act.eval, Act.put]
    intro b0 w5 hb0 hbk hbn
    have HP5 : Hid (HpS w w5 z LF A' n C' b0 (.slice (some ⟨b0, 0, none⟩) 1 1) [⟨LF.u, A', C'⟩] win) := by
      have hz4 := HL4.out.lt
      have hs4 := HB4.out.size
      refine ⟨HL4.out.later hbn, own_keep HK4.out hbn, ?_, fun x hx => ?_, fun i x hx => ?_, below_then HB4.out hbn, by omega, by omega⟩
      · have e : [(⟨LF.u, A', C'⟩ : Hop)].flatMap (hopC LF n) = lkC LF (.slice A' n C') := by simp [hopC, hopL]
        rw [e]
        exact hbk.own (Nat.le_refl _) (Nat.le_refl _) (by simp) (by rw [lkC_len HFH.out]) (by rw [List.take_of_length_le (by rw [lkC_len HFH.out]; exact Nat.le_refl _)])
      · rw [List.mem_singleton] at hx; subst hx; exact own_base (own_keep HK4.out hbn) (Nat.zero_le _)
      · cases i with
        | zero => simp at hx; subst hx; exact ⟨by simp, HNB.out.2.2.2.1⟩
        | succ i => simp at hx
    clear hb0 hbk hbn HL4 HK4 HB4
    go_wp2_with fail
    go_meet
    exact ⟨b0, rfl, HP5⟩
  obtain ⟨b0, rfl, HP5⟩ := hcut
  obtain ⟨w5, hw5⟩ : ∃ w4, w4 = wc := ⟨_, rfl⟩
  subst hw5
  clear HL4 HK4 HB4
  refine ‹∀ (a : Act) (w : World), Code.wp _ _ _ a w → _› _ _ ?_
  refine wp_seq_k fun K hK => ?_
  go_cut [8, 9, 10, 11] (fun v _ _ _ wx => ∃ (hs : List Hop) (P : Option Addr) (D : Nat), v = .slice P hs.length D ∧ 1 ≤ hs.length ∧ hs.length ≤ 6 ∧ Hid (HpS w wx z LF A' n C' b0 v hs win))
  case first =>
    as_aux_lemma =>
    go_wp2_with fail
    go_loopw [8, 9, 10, 11] (fun v _ _ _ wr => ∃ (hs : List Hop) (P : Option Addr) (m D : Nat), v = .slice P m D ∧ 1 ≤ m ∧ m ≤ 6 ∧ Hid (m = hs.length) ∧ Hid (HpS w wr z LF A' n C' b0 (.slice P m D) hs win)) (fun v _ _ _ _ => 6 - lenV v)
    case atStart => exact ⟨[⟨LF.u, A', C'⟩], _, 1, 1, rfl, Nat.le_refl _, by omega, rfl, HP5⟩
    case round =>
      clear HP5
      obtain ⟨hs, P, m, D, rfl, hm1, hm6, HM, HPr⟩ := hrel
      by_cases hlt : m < 6
      · obtain ⟨q, hq⟩ : ∃ q, m = q + 1 := ⟨m - 1, by omega⟩
        subst hq
        have hki : ((q : Int) + 1 < 6) := by omega
        have hk0 : (0 : Int) ≤ q := by omega
        obtain ⟨hml, b, o, rfl, hbl, hrg⟩ := HPr.out.hop HFH.out (by omega)
        clear hml
        obtain ⟨x, hx⟩ : ∃ x, hs[q]? = some x := ⟨hs[q]'(by rw [← HM.out]; omega), List.getElem?_eq_getElem _⟩
        have HRG := Lib.hid (hrg q x hx)
        have HXU := Lib.hid (HPr.out.us q x hx)
        have HXK := Lib.hid (HPr.out.ks x (List.mem_of_getElem? hx))
        clear hrg hx hbl
        go_upto_region 5 with fail
        have HUU : Hid (0 ≤ x.u ∧ x.u ≤ LF.u) := by
          show _ ∧ _
          have h1 := HXU.out
          have h2 := HWI.out
          have h3 : 0 ≤ (q : Int) * win := Int.mul_nonneg (by omega) (by omega)
          omega
        have HCX : Hid (checkL (hopL LF x).k (hopL LF x).s (hopL LF x).c (hopL LF x).u n = 0) := checkL_u HCZ.out HUU.out.1 HUU.out.2
        have HXO : Hid (DgOk (hopL LF x).h) := HFH.out
        have HXL : Hid (LkK wr (hopL LF x) x.A n) := ⟨Sl.of_own HXK.out, HKO.out, HFH.out, by have := HNB.out; omega⟩
        have HXZ : Hid ((Try.prog.info? 26).map (·.size) = some (hopC LF n x).length) := by show _ = _; rw [hopC_len HFH.out]; exact lk_size
        go_wp2_with (first
          | (with_reducible refine wpList_load_mid rfl 26 _ rfl b (o + q * 13) rfl (hopC LF n x) _ HRG.out Try.underlying26 rfl HXZ.out ?_)
          | (with_reducible refine stop_store 26 _ _ rfl ?_))
        refine StopD.go ?_
        obtain ⟨gl, hgl⟩ : ∃ q, wr.heap.size = q := ⟨_, rfl⟩
        obtain ⟨wq, hwq⟩ : ∃ w', wr.alloc (.cells #[.int .i64 0, .int .u8 0, .int .u8 0, .int .u8 0, .int .u8 0, .int .u8 0, .int .u8 0, .int .u8 0, .int .u8 0, .slice none 0 0, .int .i64 0, .int .i64 0, .int .i64 0] 26) = w' := ⟨_, rfl⟩
        have hbn : Below wr.heap.size wr wq := hwq ▸ below_new wr _
        have kt : Bk wq gl 26 ([] ++ (zLk' ++ [])) := by rw [← hwq]; exact Bk.at_ wr _ _ hgl rfl
        rw [hgl, hwq]
        refine wpList_store_part rfl 26 _ _ rfl gl 0 (.agg (hopC LF n x).toArray) (hopC LF n x) rfl rfl rfl 26 [] zLk' [] kt rfl (Eq.symm (show (hopC LF n x).length = 13 from (hopC_len HFH.out n x))) HXZ.out (lk_one _ _ _ _) ?_
        intro w6 hp
        have hbn : Below wr.heap.size wr w6 := hbn.grown hp.only hbn.size (fun q' hq' => by injection hq' with hq'; omega)
        have HL6 : Hid (Bk w6 gl 26 (hopC LF n x)) := by show Bk _ _ _ _; have := hp.bk; simpa using this
        clear hp kt hgl hwq
        have HP6 := Lib.hid (HPr.out.later hbn); have HX6 := Lib.hid (HXL.out.later hbn)
        clear hbn HPr HXL HRG HXK
        go_wp2_with (with_reducible refine wpList_load_bk rfl 26 _ rfl gl rfl (hopC LF n x) 26 HL6.out _ Try.underlying26 rfl HXZ.out ?_)
        rw [show hopC LF n x = lkC (hopL LF x) (.slice x.A n x.c) from rfl]
        by_cases hxw : x.u < win
        · refine (next_early w6 (hopL LF x) HXO.out x.A n x.c win HCX.out HWI.out.1 (by have := HWI.out; omega) hxw).mono ?_
          rintro e w7 ⟨rfl, hbn⟩
          have HP7 := Lib.hid (HP6.out.later hbn); have HL7 := Lib.hid (HL6.out.later hbn)
          clear hbn HP6 HL6 HX6
          have hd : decide (x.u < win) = true := by simpa using hxw
          go_wp2_with (with_reducible refine stop_store 26 _ _ rfl ?_)
          refine StopD.go ?_
          obtain ⟨gn, hgl⟩ : ∃ q, w7.heap.size = q := ⟨_, rfl⟩
          obtain ⟨wq, hwq⟩ : ∃ w', w7.alloc (.cells #[.int .i64 0, .int .u8 0, .int .u8 0, .int .u8 0, .int .u8 0, .int .u8 0, .int .u8 0, .int .u8 0, .int .u8 0, .slice none 0 0, .int .i64 0, .int .i64 0, .int .i64 0] 26) = w' := ⟨_, rfl⟩
          have hbn : Below w7.heap.size w7 wq := hwq ▸ below_new w7 _
          have kt : Bk wq gn 26 ([] ++ (zLk' ++ [])) := by rw [← hwq]; exact Bk.at_ w7 _ _ hgl rfl
          rw [hgl, hwq]
          refine wpList_store_part rfl 26 _ _ rfl gn 0 (.agg (zLk').toArray) (zLk') rfl rfl rfl 26 [] zLk' [] kt rfl (Eq.symm (show (zLk').length = 13 from rfl)) zlk_size zlk_one ?_
          intro w8 hp
          have hbn : Below w7.heap.size w7 w8 := hbn.grown hp.only hbn.size (fun q' hq' => by injection hq' with hq'; omega)
          have HN8 : Hid (Bk w8 gn 26 (zLk')) := by show Bk _ _ _ _; have := hp.bk; simpa using this
          clear hp kt hgl hwq
          have HP8 := Lib.hid (HP7.out.later hbn); have HL8 := Lib.hid (HL7.out.later hbn)
          clear hbn HP7 HL7
          have c12 : w8.cell? ⟨gl, 12, none⟩ = some (.int .i64 x.u) := (lk_mem HXO.out HL8.out).c12
          go_wp2_with fail
          go_meet
          exact ⟨hs, _, D, by rw [← HM.out], by rw [← HM.out]; exact hm1, by rw [← HM.out]; exact hm6, HP8⟩
        ·
          refine (next_ok w6 (hopL LF x) x.A n x.c win HX6.out HCX.out HWI.out.1 (by have := HWI.out; omega) (by show win ≤ x.u; omega)).mono ?_
          rintro e w7 ⟨P7, c7, rfl, hown, hbn⟩
          rw [show lkC (nextL (hopL LF x) win) (.slice P7 n c7) = hopC LF n ⟨x.u - win, P7, c7⟩ from rfl]
          have HP7 := Lib.hid (HP6.out.later hbn); have HL7 := Lib.hid (HL6.out.later hbn); have HX7 := Lib.hid (HX6.out.later hbn)
          obtain ⟨y, hyy⟩ : ∃ y, (⟨x.u - win, P7, c7⟩ : Hop) = y := ⟨_, rfl⟩
          have HYK7 : Hid (w7.ownsRow 0 23 8 (.slice y.A n y.c) n (cellsD LF.ks)) := by rw [← hyy]; exact own_base hown (Nat.zero_le _)
          have HYU : Hid (y.u = x.u - win) := by rw [← hyy]; rfl
          rw [hyy]
          clear hbn hown hyy HP6 HL6 HX6
          have HYZ : Hid ((Try.prog.info? 26).map (·.size) = some (hopC LF n y).length) := by show _ = _; rw [hopC_len HFH.out]; exact lk_size
          have HCY : Hid (checkL (hopL LF y).k (hopL LF y).s (hopL LF y).c (hopL LF y).u n = 0) := checkL_u HCZ.out (by show 0 ≤ y.u; rw [HYU.out]; omega) (by show y.u ≤ LF.u; rw [HYU.out]; have := HUU.out; have := HWI.out; omega)
          go_wp2_with (with_reducible refine stop_store 26 _ _ rfl ?_)
          refine StopD.go ?_
          obtain ⟨gn, hgl⟩ : ∃ q, w7.heap.size = q := ⟨_, rfl⟩
          obtain ⟨wq, hwq⟩ : ∃ w', w7.alloc (.cells #[.int .i64 0, .int .u8 0, .int .u8 0, .int .u8 0, .int .u8 0, .int .u8 0, .int .u8 0, .int .u8 0, .int .u8 0, .slice none 0 0, .int .i64 0, .int .i64 0, .int .i64 0] 26) = w' := ⟨_, rfl⟩
          have hbn : Below w7.heap.size w7 wq := hwq ▸ below_new w7 _
          have kt : Bk wq gn 26 ([] ++ (zLk' ++ [])) := by rw [← hwq]; exact Bk.at_ w7 _ _ hgl rfl
          rw [hgl, hwq]
          refine wpList_store_part rfl 26 _ _ rfl gn 0 (.agg (hopC LF n y).toArray) (hopC LF n y) rfl rfl rfl 26 [] zLk' [] kt rfl (Eq.symm (show (hopC LF n y).length = 13 from (hopC_len HFH.out n y))) HYZ.out (lk_one _ _ _ _) ?_
          intro w8 hp
          have hbn : Below w7.heap.size w7 w8 := hbn.grown hp.only hbn.size (fun q' hq' => by injection hq' with hq'; omega)
          have HN8 : Hid (Bk w8 gn 26 (hopC LF n y)) := by show Bk _ _ _ _; have := hp.bk; simpa using this
          clear hp kt hgl hwq
          have HP8 := Lib.hid (HP7.out.later hbn); have HL8 := Lib.hid (HL7.out.later hbn); have HX8 := Lib.hid (HX7.out.later hbn); have HYK8 := Lib.hid (own_keep HYK7.out hbn)
          have HY8 : Hid (LkK w8 (hopL LF y) y.A n) := ⟨Sl.of_own HYK8.out, HKO.out, HFH.out, by have := HNB.out; omega⟩
          clear hbn HP7 HL7 HX7 HYK7
          have hd : decide (x.u < win) = false := by simpa using hxw
          have c12 : w8.cell? ⟨gl, 12, none⟩ = some (.int .i64 x.u) := (lk_mem HXO.out HL8.out).c12
          go_upto_region 10 with fail
          clear c12 hd
          have HNI : Hid (DgOk (nmL (hopL LF x))) := ofI_ok _
          have hkr := dg_eq_run _ _ HNI.out HNI.out
          rw [show eqL (nmL (hopL LF x)) (nmL (hopL LF x)) = true by simp [eqL]] at hkr
          have HNX : Hid (∀ w', Below w8.heap.size w8 w' → Calls Try.prog 18 #[.agg (hopC LF n x).toArray] w' fun e w'' => e = .returned (.agg (dl (nmL (hopL LF x))).toArray) ∧ Below w'.heap.size w' w'') := fun w' hb => lname_L w' (hopL LF x) x.A n x.c (HX8.out.later hb) HCX.out
          have HNY : Hid (∀ w', Below w8.heap.size w8 w' → Calls Try.prog 18 #[.agg (hopC LF n y).toArray] w' fun e w'' => e = .returned (.agg (dl (nmL (hopL LF x))).toArray) ∧ Below w'.heap.size w' w'') := fun w' hb => lname_L w' (hopL LF y) y.A n y.c (HY8.out.later hb) HCY.out
          have HF1 : Hid (∀ w' win', Below w8.heap.size w8 w' → Calls Try.prog 19 #[.agg (hopC LF n x).toArray, .agg (hopC LF n y).toArray, .int .i64 win'] w' fun e w'' => e = .returned (.int .i64 (fitsI win win')) ∧ Below w'.heap.size w' w'') := fun w' win' hb => by
            have := fits_L w' (hopL LF x) y.u x.A y.A n x.c y.c win' (HX8.out.later hb) (HY8.out.later hb) HCX.out HCY.out
            rw [show (hopL LF x).u - y.u = win by show x.u - y.u = win; rw [HYU.out]; omega] at this
            exact this
          have HF2 : Hid (∀ w' win', Below w8.heap.size w8 w' → Calls Try.prog 19 #[.agg (hopC LF n y).toArray, .agg (hopC LF n x).toArray, .int .i64 win'] w' fun e w'' => e = .returned (.int .i64 (fitsI (-win) win')) ∧ Below w'.heap.size w' w'') := fun w' win' hb => by
            have := fits_L w' (hopL LF y) x.u y.A x.A n y.c x.c win' (HY8.out.later hb) (HX8.out.later hb) HCY.out HCX.out
            rw [show (hopL LF y).u - x.u = -win by show y.u - x.u = -win; rw [HYU.out]; omega] at this
            exact this
          have HV1 : Hid (fitsI win win = 0) := if_neg (by omega)
          have HV2 : Hid (fitsI (-win) win = 20) := if_pos (by have := HWI.out; omega)
          have HV3 : Hid (fitsI win (win + 1) = 20) := if_pos (by omega)
          obtain ⟨nm, hnm⟩ : ∃ x', nmL (hopL LF x) = x' := ⟨_, rfl⟩
          rw [hnm] at HNI hkr HNX HNY
          have hwr : IntKind.i64.wrap (x.u - win) = x.u - win := by rw [IntWalk.i64_in]; have := HUU.out; have := HWI.out; have := HNB.out; omega
          have hw6 : wrap64 (x.u - win) = x.u - win := IntWalk.wrap64_in _ (by have := HUU.out; have := HWI.out; have := HNB.out; omega)
          have hwr1 : IntKind.i64.wrap (win + 1) = win + 1 := by rw [IntWalk.i64_in]; have := HWI.out; omega
          have hw61 : wrap64 (win + 1) = win + 1 := IntWalk.wrap64_in _ (by have := HWI.out; omega)
          clear hnm
          refine wp_region_held_drew (S := fun w' => Bk w' gl 26 (hopC LF n x) ∧ Bk w' gn 26 (hopC LF n y)) (by kernel_rfl) ⟨Bk.drew HL8.out, Bk.drew HN8.out⟩ (fun hHeld => ?_)
          have HBa : Hid (Below w8.heap.size w8 w8.drew) := below_draws w8 w8.heap.size 1
          obtain ⟨wa, hwa⟩ : ∃ wa, w8.drew = wa := ⟨_, rfl⟩
          rw [hwa] at HBa hHeld ⊢
          clear hwa
          refine wpAnyH_take (i := 0) (v := ?_) rfl (by kernel_rfl) (by kernel_rfl) (by kernel_rfl) (fun _ _ _ h => h) (Or.inl ⟨by rfl, ?_⟩) (by assumption) ?_
          rotate_left
          · intro w hSw
            (try dsimp only at hSw)
            go_simp
            try with_reducible rfl
          try simp only [Act.put, List.setIfInBounds_toArray, List.set_cons_zero, List.set_cons_succ, List.getElem_toArray, List.getElem_cons_zero, List.getElem_cons_succ]
          refine wpAnyH_take (i := 1) (v := ?_) rfl (by kernel_rfl) (by kernel_rfl) (by kernel_rfl) (fun _ _ _ h => h) (Or.inl ⟨by rfl, ?_⟩) (by assumption) ?_
          rotate_left
          · intro w hSw
            (try dsimp only at hSw)
            go_simp
            try with_reducible rfl
          try simp only [Act.put, List.setIfInBounds_toArray, List.set_cons_zero, List.set_cons_succ, List.getElem_toArray, List.getElem_cons_zero, List.getElem_cons_succ]
          refine wpAnyH_take (i := 2) (v := ?_) rfl (by kernel_rfl) (by kernel_rfl) (by kernel_rfl) (fun _ _ _ h => h) (Or.inl ⟨by rfl, ?_⟩) (by assumption) ?_
          rotate_left
          · intro w hSw
            (try dsimp only at hSw)
            go_simp
            try with_reducible rfl
          try simp only [Act.put, List.setIfInBounds_toArray, List.set_cons_zero, List.set_cons_succ, List.getElem_toArray, List.getElem_cons_zero, List.getElem_cons_succ]
          refine wpAnyH_take (i := 3) (v := ?_) rfl (by kernel_rfl) (by kernel_rfl) (by kernel_rfl) (fun _ _ _ h => h) (Or.inl ⟨by rfl, ?_⟩) (by assumption) ?_
          rotate_left
          · intro w hSw
            (try dsimp only at hSw)
            go_simp
            try with_reducible rfl
          try simp only [Act.put, List.setIfInBounds_toArray, List.set_cons_zero, List.set_cons_succ, List.getElem_toArray, List.getElem_cons_zero, List.getElem_cons_succ]
          refine wpAnyH_take (i := 5) (v := ?_) rfl (by kernel_rfl) (by kernel_rfl) (by kernel_rfl) (fun _ _ _ h => h) (Or.inl ⟨by rfl, ?_⟩) (by assumption) ?_
          rotate_left
          · intro w hSw
            (try dsimp only at hSw)
            go_simp
            try with_reducible rfl
          try simp only [Act.put, List.setIfInBounds_toArray, List.set_cons_zero, List.set_cons_succ, List.getElem_toArray, List.getElem_cons_zero, List.getElem_cons_succ]
          refine wpAnyH_take (i := 7) (v := ?_) rfl (by kernel_rfl) (by kernel_rfl) (by kernel_rfl) (fun _ _ _ h => h) (Or.inl ⟨by rfl, ?_⟩) (by assumption) ?_
          rotate_left
          · intro w hSw
            (try dsimp only at hSw)
            go_simp
            try with_reducible rfl
          try simp only [Act.put, List.setIfInBounds_toArray, List.set_cons_zero, List.set_cons_succ, List.getElem_toArray, List.getElem_cons_zero, List.getElem_cons_succ]
          refine wpAnyH_take (i := 4) (v := ?_) rfl (by kernel_rfl) (by kernel_rfl) (by kernel_rfl) (fun _ _ _ h => h) (Or.inl ⟨by rfl, ?_⟩) (by assumption) ?_
          rotate_left
          · intro w hSw
            have hcell := (HYU.out ▸ (lk_mem (L := hopL LF y) HFH.out hSw.2).c12 : w.cell? ⟨gn, 12, none⟩ = some (.int .i64 (x.u - win)))
            clear hSw
            go_simp
            try with_reducible rfl
          try simp only [Act.put, List.setIfInBounds_toArray, List.set_cons_zero, List.set_cons_succ, List.getElem_toArray, List.getElem_cons_zero, List.getElem_cons_succ]
          refine wpAnyH_take (i := 6) (v := ?_) rfl (by kernel_rfl) (by kernel_rfl) (by kernel_rfl) (fun _ _ _ h => h) (Or.inl ⟨by rfl, ?_⟩) (by assumption) ?_
          rotate_left
          · intro w hSw
            have hcell := (show w.cell? ⟨gl, 12, none⟩ = some (.int .i64 x.u) from (lk_mem (L := hopL LF x) HFH.out hSw.1).c12)
            clear hSw
            go_simp
            try with_reducible rfl
          try simp only [Act.put, List.setIfInBounds_toArray, List.set_cons_zero, List.set_cons_succ, List.getElem_toArray, List.getElem_cons_zero, List.getElem_cons_succ]
          refine wpAnyH_take (i := 8) (v := ?_) rfl (by kernel_rfl) (by kernel_rfl) (by kernel_rfl) (fun _ _ _ h => h) (Or.inl ⟨by rfl, ?_⟩) (by assumption) ?_
          rotate_left
          · intro w hSw
            (try dsimp only at hSw)
            go_simp
            try with_reducible rfl
          try simp only [Act.put, List.setIfInBounds_toArray, List.set_cons_zero, List.set_cons_succ, List.getElem_toArray, List.getElem_cons_zero, List.getElem_cons_succ]
          refine wpAnyH_take (i := 9) (v := ?_) rfl (by kernel_rfl) (by kernel_rfl) (by kernel_rfl) (fun _ _ _ h => h) (Or.inl ⟨by rfl, ?_⟩) (by assumption) ?_
          rotate_left
          · intro w hSw
            (try dsimp only at hSw)
            go_simp
            try with_reducible rfl
          try simp only [Act.put, List.setIfInBounds_toArray, List.set_cons_zero, List.set_cons_succ, List.getElem_toArray, List.getElem_cons_zero, List.getElem_cons_succ]
          refine wpAnyH_take (i := 10) (v := ?_) rfl (by kernel_rfl) (by kernel_rfl) (by kernel_rfl) (fun _ _ _ h => h) (Or.inl ⟨by rfl, ?_⟩) (by assumption) ?_
          rotate_left
          · intro w hSw
            (try dsimp only at hSw)
            go_simp
            try with_reducible rfl
          try simp only [Act.put, List.setIfInBounds_toArray, List.set_cons_zero, List.set_cons_succ, List.getElem_toArray, List.getElem_cons_zero, List.getElem_cons_succ]
          refine wpAnyH_take (i := 11) (v := ?_) rfl (by kernel_rfl) (by kernel_rfl) (by kernel_rfl) (fun _ _ _ h => h) (Or.inl ⟨by rfl, ?_⟩) (by assumption) ?_
          rotate_left
          · intro w hSw
            (try dsimp only at hSw)
            go_simp
            try with_reducible rfl
          try simp only [Act.put, List.setIfInBounds_toArray, List.set_cons_zero, List.set_cons_succ, List.getElem_toArray, List.getElem_cons_zero, List.getElem_cons_succ]
          refine wpAnyH_take (i := 12) (v := .agg (List.toArray (hopC LF n y))) rfl (by kernel_rfl) (by kernel_rfl) (by kernel_rfl) (fun _ _ _ h => h) (yieldsIf_load_mid (by rfl) _ _ rfl _ _ rfl (hopC LF n y) _ (fun w hSw => (Bk.range (pre := []) (post := []) (by simpa using hSw.2) rfl)) Try.underlying26 rfl (HYZ.out)) (by assumption) ?_
          try simp only [Act.put, List.setIfInBounds_toArray, List.set_cons_zero, List.set_cons_succ, List.getElem_toArray, List.getElem_cons_zero, List.getElem_cons_succ]
          refine wpAnyH_take (i := 14) (v := .agg (List.toArray (hopC LF n x))) rfl (by kernel_rfl) (by kernel_rfl) (by kernel_rfl) (fun _ _ _ h => h) (yieldsIf_load_mid (by rfl) _ _ rfl _ _ rfl (hopC LF n x) _ (fun w hSw => (Bk.range (pre := []) (post := []) (by simpa using hSw.1) rfl)) Try.underlying26 rfl (HXZ.out)) (by assumption) ?_
          try simp only [Act.put, List.setIfInBounds_toArray, List.set_cons_zero, List.set_cons_succ, List.getElem_toArray, List.getElem_cons_zero, List.getElem_cons_succ]
          refine wpAnyH_ready (rs := [13]) (by kernel_rfl) (by simp) ?_
          refine AllReadyH.cons rfl (fun K hK => ?_) AllReadyH.nil
          go_simp
          (go_at_call 18; refine (HNY.out wa HBa.out).mono ?_; rintro e wb ⟨rfl, hbn⟩; have HBb := Lib.hid (below_then HBa.out hbn); clear hbn HBa)
          refine hK.out _ _ (⟨HL8.out.later HBb.out, HN8.out.later HBb.out⟩) (fun hHeld => ?_)
          clear hK K
          try simp only [Act.put, List.setIfInBounds_toArray, List.set_cons_zero, List.set_cons_succ, List.getElem_toArray, List.getElem_cons_zero, List.getElem_cons_succ]
          refine wpAnyH_ready (rs := [15]) (by kernel_rfl) (by simp) ?_
          refine AllReadyH.cons rfl (fun K hK => ?_) AllReadyH.nil
          go_simp
          (go_at_call 18; refine (HNX.out wb HBb.out).mono ?_; rintro e wc ⟨rfl, hbn⟩; have HBc := Lib.hid (below_then HBb.out hbn); clear hbn HBb)
          refine hK.out _ _ (⟨HL8.out.later HBc.out, HN8.out.later HBc.out⟩) (fun hHeld => ?_)
          clear hK K
          try simp only [Act.put, List.setIfInBounds_toArray, List.set_cons_zero, List.set_cons_succ, List.getElem_toArray, List.getElem_cons_zero, List.getElem_cons_succ]
          refine wpAnyH_take (i := 16) (v := ?_) rfl (by kernel_rfl) (by kernel_rfl) (by kernel_rfl) (fun _ _ _ h => h) (Or.inl ⟨by rfl, ?_⟩) (by assumption) ?_
          rotate_left
          · intro w hSw
            (try dsimp only at hSw)
            go_simp
            try with_reducible rfl
          try simp only [Act.put, List.setIfInBounds_toArray, List.set_cons_zero, List.set_cons_succ, List.getElem_toArray, List.getElem_cons_zero, List.getElem_cons_succ]
          refine wpAnyH_take (i := 17) (v := ?_) rfl (by kernel_rfl) (by kernel_rfl) (by kernel_rfl) (fun _ _ _ h => h) (Or.inl ⟨by rfl, ?_⟩) (by assumption) ?_
          rotate_left
          · intro w hSw
            (try dsimp only at hSw)
            go_simp
            try with_reducible rfl
          try simp only [Act.put, List.setIfInBounds_toArray, List.set_cons_zero, List.set_cons_succ, List.getElem_toArray, List.getElem_cons_zero, List.getElem_cons_succ]
          refine wpAnyH_take (i := 18) (v := ?_) rfl (by kernel_rfl) (by kernel_rfl) (by kernel_rfl) (fun _ _ _ h => h) (Or.inl ⟨by rfl, ?_⟩) (by assumption) ?_
          rotate_left
          · intro w hSw
            (try dsimp only at hSw)
            go_simp
            try with_reducible rfl
          try simp only [Act.put, List.setIfInBounds_toArray, List.set_cons_zero, List.set_cons_succ, List.getElem_toArray, List.getElem_cons_zero, List.getElem_cons_succ]
          refine wpAnyH_take (i := 19) (v := .agg (List.toArray (hopC LF n x))) rfl (by kernel_rfl) (by kernel_rfl) (by kernel_rfl) (fun _ _ _ h => h) (yieldsIf_load_mid (by rfl) _ _ rfl _ _ rfl (hopC LF n x) _ (fun w hSw => (Bk.range (pre := []) (post := []) (by simpa using hSw.1) rfl)) Try.underlying26 rfl (HXZ.out)) (by assumption) ?_
          try simp only [Act.put, List.setIfInBounds_toArray, List.set_cons_zero, List.set_cons_succ, List.getElem_toArray, List.getElem_cons_zero, List.getElem_cons_succ]
          refine wpAnyH_take (i := 20) (v := .agg (List.toArray (hopC LF n y))) rfl (by kernel_rfl) (by kernel_rfl) (by kernel_rfl) (fun _ _ _ h => h) (yieldsIf_load_mid (by rfl) _ _ rfl _ _ rfl (hopC LF n y) _ (fun w hSw => (Bk.range (pre := []) (post := []) (by simpa using hSw.2) rfl)) Try.underlying26 rfl (HYZ.out)) (by assumption) ?_
          try simp only [Act.put, List.setIfInBounds_toArray, List.set_cons_zero, List.set_cons_succ, List.getElem_toArray, List.getElem_cons_zero, List.getElem_cons_succ]
          refine wpAnyH_take (i := 21) (v := ?_) rfl (by kernel_rfl) (by kernel_rfl) (by kernel_rfl) (fun _ _ _ h => h) (Or.inl ⟨by rfl, ?_⟩) (by assumption) ?_
          rotate_left
          · intro w hSw
            (try dsimp only at hSw)
            go_simp
            try with_reducible rfl
          try simp only [Act.put, List.setIfInBounds_toArray, List.set_cons_zero, List.set_cons_succ, List.getElem_toArray, List.getElem_cons_zero, List.getElem_cons_succ]
          refine wpAnyH_ready (rs := [22]) (by kernel_rfl) (by simp) ?_
          refine AllReadyH.cons rfl (fun K hK => ?_) AllReadyH.nil
          go_simp
          (go_at_call 19; refine (HF1.out wc win HBc.out).mono ?_; rw [HV1.out]; rintro e wd ⟨rfl, hbn⟩; have HBd := Lib.hid (below_then HBc.out hbn); clear hbn HBc)
          refine hK.out _ _ (⟨HL8.out.later HBd.out, HN8.out.later HBd.out⟩) (fun hHeld => ?_)
          clear hK K
          try simp only [Act.put, List.setIfInBounds_toArray, List.set_cons_zero, List.set_cons_succ, List.getElem_toArray, List.getElem_cons_zero, List.getElem_cons_succ]
          refine wpAnyH_take (i := 23) (v := ?_) rfl (by kernel_rfl) (by kernel_rfl) (by kernel_rfl) (fun _ _ _ h => h) (Or.inl ⟨by rfl, ?_⟩) (by assumption) ?_
          rotate_left
          · intro w hSw
            (try dsimp only at hSw)
            go_simp
            try with_reducible rfl
          try simp only [Act.put, List.setIfInBounds_toArray, List.set_cons_zero, List.set_cons_succ, List.getElem_toArray, List.getElem_cons_zero, List.getElem_cons_succ]
          refine wpAnyH_take (i := 24) (v := ?_) rfl (by kernel_rfl) (by kernel_rfl) (by kernel_rfl) (fun _ _ _ h => h) (Or.inl ⟨by rfl, ?_⟩) (by assumption) ?_
          rotate_left
          · intro w hSw
            (try dsimp only at hSw)
            go_simp
            try with_reducible rfl
          try simp only [Act.put, List.setIfInBounds_toArray, List.set_cons_zero, List.set_cons_succ, List.getElem_toArray, List.getElem_cons_zero, List.getElem_cons_succ]
          refine wpAnyH_take (i := 25) (v := ?_) rfl (by kernel_rfl) (by kernel_rfl) (by kernel_rfl) (fun _ _ _ h => h) (Or.inl ⟨by rfl, ?_⟩) (by assumption) ?_
          rotate_left
          · intro w hSw
            (try dsimp only at hSw)
            go_simp
            try with_reducible rfl
          try simp only [Act.put, List.setIfInBounds_toArray, List.set_cons_zero, List.set_cons_succ, List.getElem_toArray, List.getElem_cons_zero, List.getElem_cons_succ]
          refine wpAnyH_take (i := 26) (v := .agg (List.toArray (hopC LF n y))) rfl (by kernel_rfl) (by kernel_rfl) (by kernel_rfl) (fun _ _ _ h => h) (yieldsIf_load_mid (by rfl) _ _ rfl _ _ rfl (hopC LF n y) _ (fun w hSw => (Bk.range (pre := []) (post := []) (by simpa using hSw.2) rfl)) Try.underlying26 rfl (HYZ.out)) (by assumption) ?_
          try simp only [Act.put, List.setIfInBounds_toArray, List.set_cons_zero, List.set_cons_succ, List.getElem_toArray, List.getElem_cons_zero, List.getElem_cons_succ]
          refine wpAnyH_take (i := 27) (v := .agg (List.toArray (hopC LF n x))) rfl (by kernel_rfl) (by kernel_rfl) (by kernel_rfl) (fun _ _ _ h => h) (yieldsIf_load_mid (by rfl) _ _ rfl _ _ rfl (hopC LF n x) _ (fun w hSw => (Bk.range (pre := []) (post := []) (by simpa using hSw.1) rfl)) Try.underlying26 rfl (HXZ.out)) (by assumption) ?_
          try simp only [Act.put, List.setIfInBounds_toArray, List.set_cons_zero, List.set_cons_succ, List.getElem_toArray, List.getElem_cons_zero, List.getElem_cons_succ]
          refine wpAnyH_take (i := 28) (v := ?_) rfl (by kernel_rfl) (by kernel_rfl) (by kernel_rfl) (fun _ _ _ h => h) (Or.inl ⟨by rfl, ?_⟩) (by assumption) ?_
          rotate_left
          · intro w hSw
            (try dsimp only at hSw)
            go_simp
            try with_reducible rfl
          try simp only [Act.put, List.setIfInBounds_toArray, List.set_cons_zero, List.set_cons_succ, List.getElem_toArray, List.getElem_cons_zero, List.getElem_cons_succ]
          refine wpAnyH_ready (rs := [29]) (by kernel_rfl) (by simp) ?_
          refine AllReadyH.cons rfl (fun K hK => ?_) AllReadyH.nil
          go_simp
          (go_at_call 19; refine (HF2.out wd win HBd.out).mono ?_; rw [HV2.out]; rintro e we ⟨rfl, hbn⟩; have HBe := Lib.hid (below_then HBd.out hbn); clear hbn HBd)
          refine hK.out _ _ (⟨HL8.out.later HBe.out, HN8.out.later HBe.out⟩) (fun hHeld => ?_)
          clear hK K
          try simp only [Act.put, List.setIfInBounds_toArray, List.set_cons_zero, List.set_cons_succ, List.getElem_toArray, List.getElem_cons_zero, List.getElem_cons_succ]
          refine wpAnyH_take (i := 30) (v := ?_) rfl (by kernel_rfl) (by kernel_rfl) (by kernel_rfl) (fun _ _ _ h => h) (Or.inl ⟨by rfl, ?_⟩) (by assumption) ?_
          rotate_left
          · intro w hSw
            (try dsimp only at hSw)
            go_simp
            try with_reducible rfl
          try simp only [Act.put, List.setIfInBounds_toArray, List.set_cons_zero, List.set_cons_succ, List.getElem_toArray, List.getElem_cons_zero, List.getElem_cons_succ]
          refine wpAnyH_take (i := 31) (v := ?_) rfl (by kernel_rfl) (by kernel_rfl) (by kernel_rfl) (fun _ _ _ h => h) (Or.inl ⟨by rfl, ?_⟩) (by assumption) ?_
          rotate_left
          · intro w hSw
            (try dsimp only at hSw)
            go_simp
            try with_reducible rfl
          try simp only [Act.put, List.setIfInBounds_toArray, List.set_cons_zero, List.set_cons_succ, List.getElem_toArray, List.getElem_cons_zero, List.getElem_cons_succ]
          refine wpAnyH_take (i := 32) (v := ?_) rfl (by kernel_rfl) (by kernel_rfl) (by kernel_rfl) (fun _ _ _ h => h) (Or.inl ⟨by rfl, ?_⟩) (by assumption) ?_
          rotate_left
          · intro w hSw
            (try dsimp only at hSw)
            go_simp
            try with_reducible rfl
          try simp only [Act.put, List.setIfInBounds_toArray, List.set_cons_zero, List.set_cons_succ, List.getElem_toArray, List.getElem_cons_zero, List.getElem_cons_succ]
          refine wpAnyH_take (i := 33) (v := .agg (List.toArray (hopC LF n x))) rfl (by kernel_rfl) (by kernel_rfl) (by kernel_rfl) (fun _ _ _ h => h) (yieldsIf_load_mid (by rfl) _ _ rfl _ _ rfl (hopC LF n x) _ (fun w hSw => (Bk.range (pre := []) (post := []) (by simpa using hSw.1) rfl)) Try.underlying26 rfl (HXZ.out)) (by assumption) ?_
          try simp only [Act.put, List.setIfInBounds_toArray, List.set_cons_zero, List.set_cons_succ, List.getElem_toArray, List.getElem_cons_zero, List.getElem_cons_succ]
          refine wpAnyH_take (i := 34) (v := .agg (List.toArray (hopC LF n y))) rfl (by kernel_rfl) (by kernel_rfl) (by kernel_rfl) (fun _ _ _ h => h) (yieldsIf_load_mid (by rfl) _ _ rfl _ _ rfl (hopC LF n y) _ (fun w hSw => (Bk.range (pre := []) (post := []) (by simpa using hSw.2) rfl)) Try.underlying26 rfl (HYZ.out)) (by assumption) ?_
          try simp only [Act.put, List.setIfInBounds_toArray, List.set_cons_zero, List.set_cons_succ, List.getElem_toArray, List.getElem_cons_zero, List.getElem_cons_succ]
          refine wpAnyH_take (i := 35) (v := ?_) rfl (by kernel_rfl) (by kernel_rfl) (by kernel_rfl) (fun _ _ _ h => h) (Or.inl ⟨by rfl, ?_⟩) (by assumption) ?_
          rotate_left
          · intro w hSw
            (try dsimp only at hSw)
            go_simp
            try with_reducible rfl
          try simp only [Act.put, List.setIfInBounds_toArray, List.set_cons_zero, List.set_cons_succ, List.getElem_toArray, List.getElem_cons_zero, List.getElem_cons_succ]
          refine wpAnyH_take (i := 36) (v := ?_) rfl (by kernel_rfl) (by kernel_rfl) (by kernel_rfl) (fun _ _ _ h => h) (Or.inl ⟨by rfl, ?_⟩) (by assumption) ?_
          rotate_left
          · intro w hSw
            (try dsimp only at hSw)
            go_simp
            try with_reducible rfl
          try simp only [Act.put, List.setIfInBounds_toArray, List.set_cons_zero, List.set_cons_succ, List.getElem_toArray, List.getElem_cons_zero, List.getElem_cons_succ]
          refine wpAnyH_ready (rs := [37]) (by kernel_rfl) (by simp) ?_
          refine AllReadyH.cons rfl (fun K hK => ?_) AllReadyH.nil
          go_simp
          (go_at_call 19; refine (HF1.out we (win + 1) HBe.out).mono ?_; rw [HV3.out]; rintro e wf ⟨rfl, hbn⟩; have HBf := Lib.hid (below_then HBe.out hbn); clear hbn HBe)
          refine hK.out _ _ (⟨HL8.out.later HBf.out, HN8.out.later HBf.out⟩) (fun hHeld => ?_)
          clear hK K
          try simp only [Act.put, List.setIfInBounds_toArray, List.set_cons_zero, List.set_cons_succ, List.getElem_toArray, List.getElem_cons_zero, List.getElem_cons_succ]
          refine wpAnyH_take (i := 38) (v := ?_) rfl (by kernel_rfl) (by kernel_rfl) (by kernel_rfl) (fun _ _ _ h => h) (Or.inl ⟨by rfl, ?_⟩) (by assumption) ?_
          rotate_left
          · intro w hSw
            (try dsimp only at hSw)
            go_simp
            try with_reducible rfl
          try simp only [Act.put, List.setIfInBounds_toArray, List.set_cons_zero, List.set_cons_succ, List.getElem_toArray, List.getElem_cons_zero, List.getElem_cons_succ]
          refine wpAnyH_take (i := 39) (v := ?_) rfl (by kernel_rfl) (by kernel_rfl) (by kernel_rfl) (fun _ _ _ h => h) (Or.inl ⟨by rfl, ?_⟩) (by assumption) ?_
          rotate_left
          · intro w hSw
            (try dsimp only at hSw)
            go_simp
            try with_reducible rfl
          try simp only [Act.put, List.setIfInBounds_toArray, List.set_cons_zero, List.set_cons_succ, List.getElem_toArray, List.getElem_cons_zero, List.getElem_cons_succ]
          refine wpAnyH_done (by kernel_rfl) ?_ _
          clear hHeld hkr hwr hw6 hwr1 hw61 HNX HNY HF1 HF2
          have HPf := Lib.hid (HP8.out.later HBf.out); have HNf := Lib.hid (HN8.out.later HBf.out); have HYKf := Lib.hid (own_keep HYK8.out HBf.out)
          clear HP8 HN8 HL8 HX8 HY8 HYK8 HBf
          go_wp2_with (first
            | (with_reducible refine wpList_load_bk rfl 26 _ rfl gn rfl (hopC LF n y) 26 HNf.out _ Try.underlying26 rfl HYZ.out ?_)
            | (with_reducible refine stop_bs 48 _ _ rfl ?_))
          refine StopD.go ?_
          refine wpList_bsliceG rfl 48 1 _ rfl #[(0, .agg (hopC LF n y).toArray)] ?_ 26 (hopC LF n y) (fun w => bs_lk1 (L := hopL LF y) HFH.out y.A n y.c w) ?_
          · simp [Act.eval, Act.put]
          intro q8 w9 hq8 hb8 hbn
          have HP9 := Lib.hid (HPf.out.later hbn); have HB9 := Lib.hid hb8; have HYK9 := Lib.hid (own_keep HYKf.out hbn)
          clear hq8 hb8 hbn HPf HNf HYKf
          go_wp2_with (at_builtin; refine stop_here ?_)
          refine StopD.go ?_
          obtain ⟨i0, z0, hi, hi0, hi1, hi2, hi3⟩ := lk_parts
          have hrow := HP9.out.row
          rw [← HM.out] at hrow
          have hb0 : b0 ≤ w9.heap.size := by
            obtain ⟨A2, c2, e⟩ := own_form HP9.out.row
            rcases own_bk HP9.out.row with ⟨e2, _⟩ | ⟨q', cap, ys, e2, hq', hbk', _⟩
            · injection e2 with e2; cases e2
            · have := hbk'.lt; omega
          have HB0 := Lib.hid hb0
          refine wpList_app _ rfl (.tmp 92) (.tmp 94) 48 rfl b0 26 i0 z0 13 64 Try.underlying48 hi hi0 hi1 hi2 hi3 (by decide) _ _ _ rfl hrow _ _ _ _ _ rfl (Sl.of_own (HB9.out.own (base := 0) (size := 13) (cap := 1) (n := 1) (Nat.zero_le _) (Nat.le_refl _) (by omega) (by rw [hopC_len HFH.out]) (by rw [List.take_of_length_le (by rw [hopC_len HFH.out]; exact Nat.le_refl _)]))) (show ∀ u ∈ hopC LF n y, u.oneCell' = true from lk_one (hopL LF y) y.A n y.c) (by unfold maxLen; omega) (by omega) hb0 ?_
          intro v9 w10 hown hg hat
          obtain ⟨P10, d10, h10⟩ := own_form hown
          subst h10
          have HP10 := Lib.hid (HP9.out.app (x := y) (v' := .slice P10 (q + 1 + 1) d10) (by rw [← HM.out]; exact hown) hg HYK9.out ⟨by rw [HYU.out, HXU.out.1, ← HM.out]; push_cast; rw [Int.add_mul]; omega, by rw [HYU.out]; omega⟩ HB0.out)
          clear hown hg hat hi hi0 hi1 hi2 hi3 hrow hb0 HP9 HB9 HYK9
          go_wp2_with fail
          go_roundw
          case rel => exact ⟨hs ++ [y], P10, q + 1 + 1, d10, rfl, by omega, by omega, by show _ = _; rw [List.length_append, ← HM.out]; rfl, HP10⟩
          case measure => simp [lenV]; omega
      · have hki : ¬ ((m : Int) < 6) := by omega
        go_wp2_with fail
        go_meet
        exact ⟨hs, P, D, by rw [← HM.out], by rw [← HM.out]; exact hm1, by rw [← HM.out]; exact hm6, HPr⟩
  obtain ⟨hs, P, D, rfl, hm1, hm6, HP6⟩ := hcut
  obtain ⟨w6, hw6⟩ : ∃ w4, w4 = wc := ⟨_, rfl⟩
  subst hw6
  clear HP5
  refine hK _ _ ?_
  clear hK
  go_wp2_with fail
  refine (newBook_any w6).mono ?_
  rintro e w2 ⟨⟨g, rfl, hbk⟩, hbn⟩
  have HBK2 := Lib.hid (hbk.low HP6.out.hb.size); have HP2 := Lib.hid (HP6.out.later hbn)
  clear hbk hbn HP6
  go_wp2_with fail
  refine (ltold_any w2).mono ?_
  rintro e w3 ⟨rfl, hbn⟩
  have HBK3 := Lib.hid (HBK2.out.later hbn); have HP3 := Lib.hid (HP2.out.later hbn)
  clear hbn HBK2 HP2
  have hbq : ∀ W, (Instr.build 39 #[]).run Try.prog W = .ok (.agg zPf.toArray) W := fun W => by kernel_rfl
  go_wp2_with (first
    | ((with_reducible refine wpList_build rfl 39 _ rfl #[] ?_ _ (hbq _) ?_); focus (simp [Act.eval, Act.put]; done))
    | (with_reducible refine stop_store 39 _ _ rfl ?_))
  clear hbq
  refine StopD.go ?_
  obtain ⟨gp, hgp⟩ : ∃ q, w3.heap.size = q := ⟨_, rfl⟩
  obtain ⟨w5, hw5⟩ : ∃ w', w3.alloc (.cells #[.int .u8 0, .int .u8 0, .int .u8 0, .int .u8 0, .int .u8 0, .int .u8 0, .int .u8 0, .int .u8 0, .slice none 0 0, .slice none 0 0] 39) = w' := ⟨_, rfl⟩
  have hbn : Below w3.heap.size w3 w5 := hw5 ▸ below_new w3 _
  have kt : Bk w5 gp 39 ([] ++ (zPf ++ [])) := by rw [← hw5]; exact Bk.at_ w3 _ _ hgp rfl
  rw [hgp, hw5]
  refine wpList_store_part rfl 39 _ _ rfl gp 0 (.agg zPf.toArray) zPf rfl rfl rfl 39 [] zPf [] kt rfl rfl (pf_sz zero_ok _ _) (pf_one _ _ _ _ _ _ _) ?_
  intro w6 hp
  have hbn : Below w3.heap.size w3 w6 := hbn.grown hp.only hbn.size (fun q' hq' => by injection hq' with hq'; omega)
  have HF6 : Hid (Bk w6 gp 39 zPf) := by show Bk _ _ _ _; have := hp.bk; simpa using this
  have HP6 := Lib.hid (HP3.out.later hbn); have HBK6 := Lib.hid (HBK3.out.later hbn)
  have HGP : Hid (w.heap.size ≤ gp) := by show _ ≤ gp; rw [← hgp]; exact HP3.out.hb.size
  clear hp hbn kt hgp hw5 HP3 HBK3
  have hm1 := modI_run i2 2200 (by decide) (by decide)
  have HTM : Hid (0 ≤ modI i2 2200 ∧ modI i2 2200 < 2200) := modI_lt i2 (n := 2200) (by decide)
  obtain ⟨tm, htm⟩ : ∃ y, modI i2 2200 = y := ⟨_, rfl⟩
  rw [htm] at hm1 HTM
  clear htm
  have c0 := (lk_mem HFH.out HP6.out.lk).c0
  go_upto_region 18 with fail
  clear hm1
  go_cut [110] (fun v wx => v = .bool (LF.k == 1) ∧ wx = w6)
  case first =>
    go_wp2_with fail
    go_meet
    exact ⟨rfl, rfl⟩
  obtain ⟨rfl, hwx⟩ := hcut
  have hwx := hwx.symm
  subst hwx
  clear c0
  refine ‹∀ (a : Act) (w : World), Code.wp _ _ _ a w → _› _ _ ?_
  go_cut [13] (fun v wx => v = .pointer (some ⟨gp, 0, none⟩) ∧ ∃ (es : List Ent) (B E : Option Addr) (m D' q G : Nat) (zs : List Int) (ps : List Pc), Hid (HpS w wx z LF A' n C' b0 (.slice P hs.length D) hs win) ∧ Hid (OP wx w.heap.size g es gp n B m D' E q G zs ps) ∧ Hid (∀ (x : Hop) now, 0 ≤ x.u → x.u ≤ LF.u → openO es (hopL LF x) n now zeroD zs ps = hopO LF x now))
  case first =>
    as_aux_lemma =>
    obtain ⟨_, _, _, _, e5⟩ := checkL_zero HCZ.out
    by_cases hk : LF.k = 0
    · have hn0 : n = 0 := by omega
      have hke : (LF.k == 1) = false := by rw [hk]; rfl
      clear e5
      subst hn0
      go_wp2_with fail
      go_meet
      exact ⟨rfl, [], none, none, 0, 0, 0, 0, [], [], HP6, OP.none_ HBK6.out HF6.out, fun x now h0 h1 => hopO_key x (checkL_u HCZ.out h0 h1) hk now⟩
    · have hke : (LF.k == 1) = true := by simp; omega
      have HN2 : Hid (2 ≤ n) := (HF1.out hk).2.1
      have HKN := Lib.hid hk
      have HT6 : Hid (TO w w6 g [] z LF A' n C') := ⟨HP6.out.lk, HP6.out.k, HBK6.out, HP6.out.hb⟩
      clear hk e5
      go_upto_region 19 with fail
      clear hke
      refine wp_region_held_drew (S := fun w' => Bk w' z 26 (lkC LF (.slice A' n C'))) (by kernel_rfl) (Bk.drew HT6.out.lk) (fun hHeld => ?_)
      have hbd : Below w6.heap.size w6 w6.drew := below_draws w6 w6.heap.size 1
      obtain ⟨wa, hwa⟩ : ∃ wa, w6.drew = wa := ⟨_, rfl⟩
      rw [hwa] at hbd hHeld ⊢
      have HTa := Lib.hid (HT6.out.later hbd); have HFa := Lib.hid (HF6.out.later hbd); have HKa := Lib.hid (Keeps.of_below hbd)
      clear hwa hbd HT6 HF6
      refine wpAnyH_take (i := 0) (v := ?_) rfl (by kernel_rfl) (by kernel_rfl) (by kernel_rfl) (fun _ _ _ h => h) (Or.inl ⟨by rfl, ?_⟩) (by assumption) ?_
      rotate_left
      · intro w hSw
        (try dsimp only at hSw)
        go_simp
        try with_reducible rfl
      try simp only [Act.put, List.setIfInBounds_toArray, List.set_cons_zero, List.set_cons_succ, List.getElem_toArray, List.getElem_cons_zero, List.getElem_cons_succ]
      refine wpAnyH_take (i := 1) (v := .agg (List.toArray (lkC LF (.slice A' n C')))) rfl (by kernel_rfl) (by kernel_rfl) (by kernel_rfl) (fun _ _ _ h => h) (yieldsIf_load_mid (by rfl) _ _ rfl _ _ rfl (lkC LF (.slice A' n C')) _ (fun w hSw => (Bk.range (pre := []) (post := []) (by simpa using hSw) rfl)) Try.underlying26 rfl (HSL.out)) (by assumption) ?_
      try simp only [Act.put, List.setIfInBounds_toArray, List.set_cons_zero, List.set_cons_succ, List.getElem_toArray, List.getElem_cons_zero, List.getElem_cons_succ]
      refine wpAnyH_take (i := 2) (v := ?_) rfl (by kernel_rfl) (by kernel_rfl) (by kernel_rfl) (fun _ _ _ h => h) (Or.inl ⟨by rfl, ?_⟩) (by assumption) ?_
      rotate_left
      · intro w hSw
        (try dsimp only at hSw)
        go_simp
        try with_reducible rfl
      try simp only [Act.put, List.setIfInBounds_toArray, List.set_cons_zero, List.set_cons_succ, List.getElem_toArray, List.getElem_cons_zero, List.getElem_cons_succ]
      refine wpAnyH_take (i := 6) (v := ?_) rfl (by kernel_rfl) (by kernel_rfl) (by kernel_rfl) (fun _ _ _ h => h) (Or.inl ⟨by rfl, ?_⟩) (by assumption) ?_
      rotate_left
      · intro w hSw
        (try dsimp only at hSw)
        go_simp
        try with_reducible rfl
      try simp only [Act.put, List.setIfInBounds_toArray, List.set_cons_zero, List.set_cons_succ, List.getElem_toArray, List.getElem_cons_zero, List.getElem_cons_succ]
      refine wpAnyH_take (i := 3) (v := ?_) rfl (by kernel_rfl) (by kernel_rfl) (by kernel_rfl) (fun _ _ _ h => h) (Or.inl ⟨by rfl, ?_⟩) (by assumption) ?_
      rotate_left
      · intro w hSw
        have hcell := (lk_mem HFH.out hSw).c9
        clear hSw
        go_simp
        try with_reducible rfl
      try simp only [Act.put, List.setIfInBounds_toArray, List.set_cons_zero, List.set_cons_succ, List.getElem_toArray, List.getElem_cons_zero, List.getElem_cons_succ]
      refine wpAnyH_take (i := 7) (v := ?_) rfl (by kernel_rfl) (by kernel_rfl) (by kernel_rfl) (fun _ _ _ h => h) (Or.inl ⟨by rfl, ?_⟩) (by assumption) ?_
      rotate_left
      · intro w hSw
        have hcell := (lk_mem HFH.out hSw).c9
        clear hSw
        go_simp
        try with_reducible rfl
      try simp only [Act.put, List.setIfInBounds_toArray, List.set_cons_zero, List.set_cons_succ, List.getElem_toArray, List.getElem_cons_zero, List.getElem_cons_succ]
      refine wpAnyH_take (i := 4) (v := ?_) rfl (by kernel_rfl) (by kernel_rfl) (by kernel_rfl) (fun _ _ _ h => h) (Or.inl ⟨by rfl, ?_⟩) (by assumption) ?_
      rotate_left
      · intro w hSw
        (try dsimp only at hSw)
        go_simp
        try with_reducible rfl
      try simp only [Act.put, List.setIfInBounds_toArray, List.set_cons_zero, List.set_cons_succ, List.getElem_toArray, List.getElem_cons_zero, List.getElem_cons_succ]
      refine wpAnyH_take (i := 8) (v := ?_) rfl (by kernel_rfl) (by kernel_rfl) (by kernel_rfl) (fun _ _ _ h => h) (Or.inl ⟨by rfl, ?_⟩) (by assumption) ?_
      rotate_left
      · intro w hSw
        (try dsimp only at hSw)
        go_simp
        try with_reducible rfl
      try simp only [Act.put, List.setIfInBounds_toArray, List.set_cons_zero, List.set_cons_succ, List.getElem_toArray, List.getElem_cons_zero, List.getElem_cons_succ]
      refine wpAnyH_ready (rs := [5]) (by kernel_rfl) (by simp) ?_
      refine AllReadyH.cons rfl (fun K hK => ?_) AllReadyH.nil
      rw [if_pos (by rfl)]
      refine wp_mk _ _ _ rfl _ _ _ rfl rfl _ (make_i n (by have := HNB.out; omega) _) ?_
      obtain ⟨wb, hwb⟩ : ∃ wb, wa.alloc (.cells ((zerosI n).map (.int .i64)).toArray 3) = wb := ⟨_, rfl⟩
      obtain ⟨q7, hq7⟩ : ∃ q, wa.heap.size = q := ⟨_, rfl⟩
      have hbn : Below wa.heap.size wa wb := hwb ▸ below_new wa _
      have HQb : Hid (Bk wb q7 3 ((zerosI n).map (.int .i64))) := by show Bk _ _ _ _; rw [← hwb]; exact Bk.at_ wa _ _ hq7 rfl
      rw [hwb, hq7]
      clear hwb hq7
      have HTb := Lib.hid (HTa.out.later hbn); have HFb := Lib.hid (HFa.out.later hbn); have HKb := Lib.hid (HKa.out.trans (Keeps.of_below hbn))
      clear hbn HTa HFa HKa
      refine hK.out _ _ HTb.out.lk (fun hHeld => ?_)
      clear hK K
      try simp only [Act.put, List.setIfInBounds_toArray, List.set_cons_zero, List.set_cons_succ, List.getElem_toArray, List.getElem_cons_zero, List.getElem_cons_succ]
      have HEL : Hid (([] : List Ent).length + n ≤ 65536) := by show 0 + n ≤ _; have := HNB.out; omega
      have HOC := Lib.hid (outcome_any wb w.heap.size g [] HTb.out.bk LF HFH.out HKO.out A' n C' (by have := HNB.out; omega) HEL.out (zerosI n) (zerosI_ok n) (some ⟨q7, 0, none⟩) n n (by have := HNB.out; omega) ⟨own_base HTb.out.k (Nat.zero_le _), HQb.out.own (Nat.zero_le _) (Nat.le_refl _) (by have := HNB.out; omega) (by simp [zerosI_len]) (by rw [List.take_of_length_le (by simp [zerosI_len])])⟩ HTb.out.hb.size n)
      refine wpAnyH_ready (rs := [9]) (by kernel_rfl) (by simp) ?_
      refine AllReadyH.cons rfl (fun K hK => ?_) AllReadyH.nil
      go_simp
      (go_at_call 14; refine HOC.out.mono ?_; rintro e wc ⟨⟨E, F, ps, rfl, h1, h2, h3⟩, hbk, hb, hk, hrw⟩; have HTc := Lib.hid (HTb.out.sign hk hb hbk); have HFc := Lib.hid (HFb.out.keeps hk (by decide) (by decide)); have HKc := Lib.hid (HKb.out.trans hk); have HR1 := Lib.hid h1; have HR2 := Lib.hid h2; have HR3 := Lib.hid h3; have HRW := Lib.hid hrw; clear h1 h2 h3 hbk hb hk hrw HTb HFb HQb HOC)
      refine hK.out _ _ (HTc.out.lk) (fun hHeld => ?_)
      clear hK K
      try simp only [Act.put, List.setIfInBounds_toArray, List.set_cons_zero, List.set_cons_succ, List.getElem_toArray, List.getElem_cons_zero, List.getElem_cons_succ]
      refine wpAnyH_ready (rs := [10]) (by kernel_rfl) (by simp) ?_
      refine AllReadyH.cons rfl (fun K hK => ?_) AllReadyH.nil
      rw [if_pos (by rfl)]
      refine wp_store_part _ _ _ rfl gp 0 _ (pfC zeroD (.slice (some ⟨q7, 0, none⟩) n n) (.slice E n F)) rfl rfl rfl _ ([]) (zPf) ([]) (by simpa using HFc.out) rfl rfl (pf_sz zero_ok _ _) (pf_one _ _ _ _ _ _ _) ?_
      intro wd hp
      refine hK.out _ _ (HTc.out.lk.grown hp.only (fun e => by injection e with e; subst e; exact HTc.out.lk.ne_ HFc.out (by decide) rfl)) (fun hHeld => ?_)
      clear hK K
      try simp only [Act.put, List.setIfInBounds_toArray, List.set_cons_zero, List.set_cons_succ, List.getElem_toArray, List.getElem_cons_zero, List.getElem_cons_succ]
      refine wpAnyH_done (by kernel_rfl) ?_ _
      clear hHeld
      have HFd : Hid (Bk wd gp 39 (pfC zeroD (.slice (some ⟨q7, 0, none⟩) n n) (.slice E n F))) := by show Bk _ _ _ _; have := hp.bk; simpa using this
      have HTd : Hid (TO w wd g (sgO [] (msgO LF.h (zerosI n)) n LF.ks n).2 z LF A' n C') := ⟨HTc.out.lk.grown hp.only (fun e => by injection e with e; subst e; exact HTc.out.lk.ne_ HFc.out (by decide) rfl), own_only HTc.out.k hp.only (own_bk_ne HTc.out.k HFc.out (by decide)), HTc.out.bk.put hp HFc.out (by decide) (by decide), below_only HTc.out.hb hp.only HTc.out.hb.size HGP.out⟩
      have HPR := Lib.hid (out_pr (own_only HR1.out hp.only (own_bk_ne HR1.out HFc.out (by decide))) (fun q hq => own_only (HR2.out q hq) hp.only (own_bk_ne (HR2.out q hq) HFc.out (by decide))) HR3.out HEL.out (own_only HRW.out.z hp.only (own_bk_ne HRW.out.z HFc.out (by decide))) (zerosI_bd n) (by have := HNB.out; omega))
      have HAL : Hid (allB (sgO [] (msgO LF.h (zerosI n)) n LF.ks n).2 (msgO LF.h (zerosI n)) LF.ks ps [] = true) := by
        show _ = _
        have h4 := HKL.out
        have h5 := sgO_all (es := []) (m := msgO LF.h (zerosI n)) (many := n) (ks := LF.ks) (ps := ps) (by rw [h4]; exact Nat.lt_of_lt_of_le (by decide) HN2.out) (by rw [h4]; exact HR3.out)
        rw [h4] at h5
        rw [h5]; simp
      have HOP : Hid (OP wd w.heap.size g (sgO [] (msgO LF.h (zerosI n)) n LF.ks n).2 gp n (some ⟨q7, 0, none⟩) n n E n F (zerosI n) ps) := ⟨HFd.out, HTd.out.bk, HPR.out, fun _ => rfl, by have h1 := (sgO_len [] (msgO LF.h (zerosI n)) n LF.ks n).2; have h2 := HEL.out; exact Nat.le_trans h1 h2⟩
      have HGd := Lib.hid hp.only
      clear hp HTc HR1 HR2 HR3 HRW HPR HFd HKb
      have HPd := Lib.hid (HP6.out.signs HKc.out HFc.out HGd.out HTd.out.hb)
      go_wp2_with fail
      go_meet
      exact ⟨rfl, _, _, _, _, _, _, _, _, _, HPd, HOP, fun x now h0 h1 => hopO_out x (checkL_u HCZ.out h0 h1) HKN.out HAL.out now⟩
  obtain ⟨rfl, es, B, E, m, D', q', G, zs, ps, HP7, HO7, HOO⟩ := hcut
  obtain ⟨w7, hw7⟩ : ∃ w4, w4 = wc := ⟨_, rfl⟩
  subst hw7
  clear HP6 HF6 HBK6
  refine ‹∀ (a : Act) (w : World), Code.wp _ _ _ a w → _› _ _ ?_
  have HHL : Hid (1 ≤ hs.length ∧ hs.length ≤ 6) := ⟨‹1 ≤ hs.length›, ‹hs.length ≤ 6›⟩
  clear hm6
  obtain ⟨M, hM⟩ : ∃ M, hs.length = M := ⟨_, rfl⟩
  have HM := Lib.hid hM
  rw [hM] at HP7 HHL ⊢
  clear hM hm1
  have hM1 : (1 : Int) ≤ M := by have := HHL.out; omega
  have hw1 : wrap64 ((M : Int) - 1) = M - 1 := IntWalk.wrap64_in _ (by have := HHL.out; omega)
  have hw2 : IntKind.i64.wrap ((M : Int) - 1) = M - 1 := by rw [IntWalk.i64_in]; have := HHL.out; omega
  go_wp2_with fail
  clear hw1 hw2 hM1
  go_loopw [15, 16, 17, 18, 19, 20, 21] (fun fv wv iv _ _ _ _ wr => ∃ (j : Nat) (iz fi : Int) (was : Bool), j ≤ M ∧ iv = .int .i64 iz ∧ iz = (j : Int) - 1 ∧ fv = .int .i64 fi ∧ wv = .bool was ∧ Hid (was = true → fi = LF.c ∧ ∀ (i : Nat) (x : Hop), i < j → hs[i]? = some x → tm ≤ x.u) ∧ Hid (HpS w wr z LF A' n C' b0 (.slice P M D) hs win) ∧ Hid (OP wr w.heap.size g es gp n B m D' E q' G zs ps)) (fun _ _ iv _ _ _ _ _ => (intOf iv + 1).toNat)
  case atStart => exact ⟨M, _, 0, false, Nat.le_refl _, rfl, rfl, rfl, rfl, Lib.hid (fun h => absurd h (by decide)), HP7, HO7⟩
  case round =>
    clear HP7 HO7
    obtain ⟨j, iz, fi, was, hj, rfl, hiz, rfl, rfl, HWS, HPr, HOr⟩ := hrel
    rcases Nat.eq_zero_or_pos j with hj0 | hj0
    · have hz0 : iz = -1 := by omega
      clear hiz
      subst hz0
      clear hj0 HWS
      go_wp2_with fail
      go_ret
      exact ⟨rfl, HPr.out.hb⟩
    · obtain ⟨q, hq⟩ : ∃ q, j = q + 1 := ⟨j - 1, by omega⟩
      subst hq
      have hzq : iz = q := by omega
      subst hzq
      clear hiz hj0
      have hk0 : (0 : Int) ≤ q := by omega
      have hkM : (q : Int) < M := by omega
      have hqM : q < M := by omega
      obtain ⟨hml, b, o, rfl, hbl, hrg⟩ := HPr.out.hop HFH.out (by have := HHL.out; omega)
      clear hml
      obtain ⟨x, hx⟩ : ∃ x, hs[q]? = some x := ⟨hs[q]'(by rw [HM.out]; omega), List.getElem?_eq_getElem _⟩
      have HX := Lib.hid hx
      have HXU := Lib.hid (HPr.out.us q x hx)
      have HUU : Hid (0 ≤ x.u ∧ x.u ≤ LF.u) := by
        show _ ∧ _
        have h1 := HXU.out
        have h2 := HWI.out
        have h3 : 0 ≤ (q : Int) * win := Int.mul_nonneg (by omega) (by omega)
        omega
      have HRX : Hid (∀ w', HpS w w' z LF A' n C' b0 (.slice (some ⟨b, o, none⟩) M D) hs win → ∀ i y, hs[i]? = some y → w'.rangeAt b (o + i * 13) (hopC LF n y)) := fun w' h i y hy => by
        obtain ⟨_, b2, o2, e, _, h2⟩ := h.hop HFH.out (by have := HHL.out; omega)
        injection e with e; injection e with e e'; subst e; subst e'
        exact h2 i y hy
      have HKX : Hid (∀ w', HpS w w' z LF A' n C' b0 (.slice (some ⟨b, o, none⟩) M D) hs win → ∀ y ∈ hs, LkK w' (hopL LF y) y.A n) := fun w' h y hy => ⟨Sl.of_own (h.ks y hy), HKO.out, HFH.out, by have := HNB.out; omega⟩
      have HXZ : Hid (∀ y, (Try.prog.info? 26).map (·.size) = some (hopC LF n y).length) := fun y => by rw [hopC_len HFH.out]; exact lk_size
      have HPZ : Hid ((Try.prog.info? 39).map (·.size) = some (pfC zeroD (.slice B m D') (.slice E q' G)).length) := pf_sz zero_ok _ _
      clear hrg hx hbl
      go_upto_region 24 with fail
      go_cut [17, 18, 19] (fun iv nv ev wx => iv = .int .i64 q ∧ ∃ rn re : Int, nv = .int .i64 rn ∧ ev = .int .i64 re ∧ Hid ((rn, re) = hopO LF x tm) ∧ Hid (HpS w wx z LF A' n C' b0 (.slice (some ⟨b, o, none⟩) M D) hs win) ∧ Hid (OP wx w.heap.size g es gp n B m D' E q' G zs ps))
      case first =>
        as_aux_lemma =>
        refine wp_region_held_drew (S := fun w' => w'.rangeAt b (o + q * 13) (hopC LF n x) ∧ Bk w' gp 39 (pfC zeroD (.slice B m D') (.slice E q' G))) (by kernel_rfl) ⟨HRX.out _ (HPr.out.later (below_draws wr _ 1)) q x HX.out, (HOr.out.later (below_draws wr _ 1)).pf⟩ (fun hHeld => ?_)
        have hbd : Below wr.heap.size wr wr.drew := below_draws wr wr.heap.size 1
        obtain ⟨wa, hwa⟩ : ∃ wa, wr.drew = wa := ⟨_, rfl⟩
        rw [hwa] at hbd hHeld ⊢
        have HPa := Lib.hid (HPr.out.later hbd); have HOa := Lib.hid (HOr.out.later hbd)
        clear hwa hbd HPr HOr
        refine wpAnyH_take (i := 0) (v := ?_) rfl (by kernel_rfl) (by kernel_rfl) (by kernel_rfl) (fun _ _ _ h => h) (Or.inl ⟨by rfl, ?_⟩) (by assumption) ?_
        rotate_left
        · intro w hSw
          (try dsimp only at hSw)
          go_simp
          try with_reducible rfl
        try simp only [Act.put, List.setIfInBounds_toArray, List.set_cons_zero, List.set_cons_succ, List.getElem_toArray, List.getElem_cons_zero, List.getElem_cons_succ]
        refine wpAnyH_take (i := 1) (v := ?_) rfl (by kernel_rfl) (by kernel_rfl) (by kernel_rfl) (fun _ _ _ h => h) (Or.inl ⟨by rfl, ?_⟩) (by assumption) ?_
        rotate_left
        · intro w hSw
          (try dsimp only at hSw)
          go_simp
          try with_reducible rfl
        try simp only [Act.put, List.setIfInBounds_toArray, List.set_cons_zero, List.set_cons_succ, List.getElem_toArray, List.getElem_cons_zero, List.getElem_cons_succ]
        refine wpAnyH_take (i := 4) (v := ?_) rfl (by kernel_rfl) (by kernel_rfl) (by kernel_rfl) (fun _ _ _ h => h) (Or.inl ⟨by rfl, ?_⟩) (by assumption) ?_
        rotate_left
        · intro w hSw
          (try dsimp only at hSw)
          go_simp
          try with_reducible rfl
        try simp only [Act.put, List.setIfInBounds_toArray, List.set_cons_zero, List.set_cons_succ, List.getElem_toArray, List.getElem_cons_zero, List.getElem_cons_succ]
        refine wpAnyH_take (i := 6) (v := ?_) rfl (by kernel_rfl) (by kernel_rfl) (by kernel_rfl) (fun _ _ _ h => h) (Or.inl ⟨by rfl, ?_⟩) (by assumption) ?_
        rotate_left
        · intro w hSw
          (try dsimp only at hSw)
          go_simp
          try with_reducible rfl
        try simp only [Act.put, List.setIfInBounds_toArray, List.set_cons_zero, List.set_cons_succ, List.getElem_toArray, List.getElem_cons_zero, List.getElem_cons_succ]
        refine wpAnyH_take (i := 7) (v := .agg (List.toArray (pfC zeroD (.slice B m D') (.slice E q' G)))) rfl (by kernel_rfl) (by kernel_rfl) (by kernel_rfl) (fun _ _ _ h => h) (yieldsIf_load_mid (by rfl) _ _ rfl _ _ rfl (pfC zeroD (.slice B m D') (.slice E q' G)) _ (fun w hSw => (Bk.range (pre := []) (post := []) (by simpa using hSw.2) rfl)) Try.underlying39 rfl (HPZ.out)) (by assumption) ?_
        try simp only [Act.put, List.setIfInBounds_toArray, List.set_cons_zero, List.set_cons_succ, List.getElem_toArray, List.getElem_cons_zero, List.getElem_cons_succ]
        refine wpAnyH_take (i := 2) (v := ?_) rfl (by kernel_rfl) (by kernel_rfl) (by kernel_rfl) (fun _ _ _ h => h) (Or.inl ⟨by rfl, ?_⟩) (by assumption) ?_
        rotate_left
        · intro w hSw
          (try dsimp only at hSw)
          go_simp
          try with_reducible rfl
        try simp only [Act.put, List.setIfInBounds_toArray, List.set_cons_zero, List.set_cons_succ, List.getElem_toArray, List.getElem_cons_zero, List.getElem_cons_succ]
        refine wpAnyH_take (i := 5) (v := ?_) rfl (by kernel_rfl) (by kernel_rfl) (by kernel_rfl) (fun _ _ _ h => h) (Or.inl ⟨by rfl, ?_⟩) (by assumption) ?_
        rotate_left
        · intro w hSw
          (try dsimp only at hSw)
          go_simp
          try with_reducible rfl
        try simp only [Act.put, List.setIfInBounds_toArray, List.set_cons_zero, List.set_cons_succ, List.getElem_toArray, List.getElem_cons_zero, List.getElem_cons_succ]
        refine wpAnyH_take (i := 3) (v := .agg (List.toArray (hopC LF n x))) rfl (by kernel_rfl) (by kernel_rfl) (by kernel_rfl) (fun _ _ _ h => h) (yieldsIf_load_mid (by rfl) _ _ rfl _ _ rfl (hopC LF n x) _ (fun w hSw => hSw.1) Try.underlying26 rfl ((HXZ.out x))) (by assumption) ?_
        try simp only [Act.put, List.setIfInBounds_toArray, List.set_cons_zero, List.set_cons_succ, List.getElem_toArray, List.getElem_cons_zero, List.getElem_cons_succ]
        obtain ⟨⟨rn, re⟩, hR⟩ : ∃ R, hopO LF x tm = R := ⟨_, rfl⟩
        have hop := HOa.out.open_ (C := x.c) (HKX.out _ HPa.out x (List.mem_of_getElem? HX.out)) tm
        rw [HOO.out x tm HUU.out.1 HUU.out.2, hR] at hop
        have HOP := Lib.hid hop
        have HR := Lib.hid hR
        clear hop hR
        refine wpAnyH_ready (rs := [8]) (by kernel_rfl) (by simp) ?_
        refine AllReadyH.cons rfl (fun K hK => ?_) AllReadyH.nil
        go_simp
        (go_at_call 13; refine HOP.out.mono ?_; rintro e wb ⟨rfl, hbn⟩; have HPb := Lib.hid (HPa.out.later hbn); have HOb := Lib.hid (HOa.out.later hbn); clear hbn HOP HPa HOa)
        refine hK.out _ _ (⟨HRX.out _ HPb.out q x HX.out, HOb.out.pf⟩) (fun hHeld => ?_)
        clear hK K
        try simp only [Act.put, List.setIfInBounds_toArray, List.set_cons_zero, List.set_cons_succ, List.getElem_toArray, List.getElem_cons_zero, List.getElem_cons_succ]
        refine wpAnyH_take (i := 9) (v := ?_) rfl (by kernel_rfl) (by kernel_rfl) (by kernel_rfl) (fun _ _ _ h => h) (Or.inl ⟨by rfl, ?_⟩) (by assumption) ?_
        rotate_left
        · intro w hSw
          (try dsimp only at hSw)
          go_simp
          try with_reducible rfl
        try simp only [Act.put, List.setIfInBounds_toArray, List.set_cons_zero, List.set_cons_succ, List.getElem_toArray, List.getElem_cons_zero, List.getElem_cons_succ]
        refine wpAnyH_take (i := 10) (v := ?_) rfl (by kernel_rfl) (by kernel_rfl) (by kernel_rfl) (fun _ _ _ h => h) (Or.inl ⟨by rfl, ?_⟩) (by assumption) ?_
        rotate_left
        · intro w hSw
          (try dsimp only at hSw)
          go_simp
          try with_reducible rfl
        try simp only [Act.put, List.setIfInBounds_toArray, List.set_cons_zero, List.set_cons_succ, List.getElem_toArray, List.getElem_cons_zero, List.getElem_cons_succ]
        refine wpAnyH_take (i := 11) (v := ?_) rfl (by kernel_rfl) (by kernel_rfl) (by kernel_rfl) (fun _ _ _ h => h) (Or.inl ⟨by rfl, ?_⟩) (by assumption) ?_
        rotate_left
        · intro w hSw
          (try dsimp only at hSw)
          go_simp
          try with_reducible rfl
        try simp only [Act.put, List.setIfInBounds_toArray, List.set_cons_zero, List.set_cons_succ, List.getElem_toArray, List.getElem_cons_zero, List.getElem_cons_succ]
        refine wpAnyH_take (i := 12) (v := ?_) rfl (by kernel_rfl) (by kernel_rfl) (by kernel_rfl) (fun _ _ _ h => h) (Or.inl ⟨by rfl, ?_⟩) (by assumption) ?_
        rotate_left
        · intro w hSw
          (try dsimp only at hSw)
          go_simp
          try with_reducible rfl
        try simp only [Act.put, List.setIfInBounds_toArray, List.set_cons_zero, List.set_cons_succ, List.getElem_toArray, List.getElem_cons_zero, List.getElem_cons_succ]
        refine wpAnyH_take (i := 13) (v := ?_) rfl (by kernel_rfl) (by kernel_rfl) (by kernel_rfl) (fun _ _ _ h => h) (Or.inl ⟨by rfl, ?_⟩) (by assumption) ?_
        rotate_left
        · intro w hSw
          (try dsimp only at hSw)
          go_simp
          try with_reducible rfl
        try simp only [Act.put, List.setIfInBounds_toArray, List.set_cons_zero, List.set_cons_succ, List.getElem_toArray, List.getElem_cons_zero, List.getElem_cons_succ]
        refine wpAnyH_done (by kernel_rfl) ?_ _
        clear hHeld
        go_wp2_with fail
        go_meet
        exact ⟨rfl, rn, re, rfl, rfl, HR.out.symm, HPb, HOb⟩
      obtain ⟨rfl, rn, re, rfl, rfl, HR, HPs, HOs⟩ := hcut
      obtain ⟨ws, hws⟩ : ∃ w4, w4 = wc := ⟨_, rfl⟩
      subst hws
      clear HPr HOr
      refine ‹∀ (a : Act) (w : World), Code.wp _ _ _ a w → _› _ _ ?_
      have HZH := Lib.hid (hdg_size _ HFH.out); have HZZ := Lib.hid (hdg_size _ zero_ok)
      refine wp_seq_k fun K hK => ?_
      refine wp_seq_k fun K2 hK2 => ?_
      go_cut [150] (fun v wx => v = .bool (!goodL LF) ∧ Hid (HpS w wx z LF A' n C' b0 (.slice (some ⟨b, o, none⟩) M D) hs win) ∧ Hid (OP wx w.heap.size g es gp n B m D' E q' G zs ps))
      case first =>
        as_aux_lemma =>
        refine wp_region_held_drew (S := fun w' => Bk w' z 26 (lkC LF (.slice A' n C')) ∧ Bk w' gp 39 (pfC zeroD (.slice B m D') (.slice E q' G))) (by kernel_rfl) ⟨Bk.drew HPs.out.lk, Bk.drew HOs.out.pf⟩ (fun hHeld => ?_)
        have hbd : Below ws.heap.size ws ws.drew := below_draws ws ws.heap.size 1
        obtain ⟨wa, hwa⟩ : ∃ wa, ws.drew = wa := ⟨_, rfl⟩
        rw [hwa] at hbd hHeld ⊢
        have HPa := Lib.hid (HPs.out.later hbd); have HOa := Lib.hid (HOs.out.later hbd)
        clear hwa hbd HPs HOs
        by_cases hk : LF.k = 0
        · have HKZ := Lib.hid hk
          have HGD := Lib.hid (goodL_key hk)
          have hkr := dg_eq_run _ _ (oneI_ok zeroD) HFH.out
          obtain ⟨bb, hbb⟩ : ∃ b, eqL (oneI zeroD) LF.h = b := ⟨_, rfl⟩
          rw [hbb] at hkr HGD
          obtain ⟨on, hon⟩ : ∃ o, oneI zeroD = o := ⟨_, rfl⟩
          have HON := Lib.hid (fun w' => one_any w' zeroD zero_ok)
          rw [hon] at hkr HON
          clear hon hbb hk
          refine wpAnyH_take (i := 0) (v := ?_) rfl (by kernel_rfl) (by kernel_rfl) (by kernel_rfl) (fun _ _ _ h => h) (Or.inl ⟨by rfl, ?_⟩) (by assumption) ?_
          rotate_left
          · intro w hSw
            (try dsimp only at hSw)
            go_simp
            try with_reducible rfl
          try simp only [Act.put, List.setIfInBounds_toArray, List.set_cons_zero, List.set_cons_succ, List.getElem_toArray, List.getElem_cons_zero, List.getElem_cons_succ]
          refine wpAnyH_take (i := 1) (v := ?_) rfl (by kernel_rfl) (by kernel_rfl) (by kernel_rfl) (fun _ _ _ h => h) (Or.inl ⟨by rfl, ?_⟩) (by assumption) ?_
          rotate_left
          · intro w hSw
            have hcell := (HKZ.out ▸ (lk_mem HFH.out hSw.1).c0)
            clear hSw
            go_simp
            try with_reducible rfl
          try simp only [Act.put, List.setIfInBounds_toArray, List.set_cons_zero, List.set_cons_succ, List.getElem_toArray, List.getElem_cons_zero, List.getElem_cons_succ]
          refine wpAnyH_take (i := 2) (v := ?_) rfl (by kernel_rfl) (by kernel_rfl) (by kernel_rfl) (fun _ _ _ h => h) (Or.inl ⟨by rfl, ?_⟩) (by assumption) ?_
          rotate_left
          · intro w hSw
            (try dsimp only at hSw)
            go_simp
            try with_reducible rfl
          try simp only [Act.put, List.setIfInBounds_toArray, List.set_cons_zero, List.set_cons_succ, List.getElem_toArray, List.getElem_cons_zero, List.getElem_cons_succ]
          refine wpAnyH_take (i := 3) (v := ?_) rfl (by kernel_rfl) (by kernel_rfl) (by kernel_rfl) (fun _ _ _ h => h) (Or.inl ⟨by rfl, ?_⟩) (by assumption) ?_
          rotate_left
          · intro w hSw
            (try dsimp only at hSw)
            go_simp
            try with_reducible rfl
          try simp only [Act.put, List.setIfInBounds_toArray, List.set_cons_zero, List.set_cons_succ, List.getElem_toArray, List.getElem_cons_zero, List.getElem_cons_succ]
          refine wpAnyH_take (i := 4) (v := ?_) rfl (by kernel_rfl) (by kernel_rfl) (by kernel_rfl) (fun _ _ _ h => h) (Or.inl ⟨by rfl, ?_⟩) (by assumption) ?_
          rotate_left
          · intro w hSw
            (try dsimp only at hSw)
            go_simp
            try with_reducible rfl
          try simp only [Act.put, List.setIfInBounds_toArray, List.set_cons_zero, List.set_cons_succ, List.getElem_toArray, List.getElem_cons_zero, List.getElem_cons_succ]
          refine wpAnyH_take (i := 7) (v := ?_) rfl (by kernel_rfl) (by kernel_rfl) (by kernel_rfl) (fun _ _ _ h => h) (Or.inl ⟨by rfl, ?_⟩) (by assumption) ?_
          rotate_left
          · intro w hSw
            (try dsimp only at hSw)
            go_simp
            try with_reducible rfl
          try simp only [Act.put, List.setIfInBounds_toArray, List.set_cons_zero, List.set_cons_succ, List.getElem_toArray, List.getElem_cons_zero, List.getElem_cons_succ]
          refine wpAnyH_take (i := 5) (v := .agg (List.toArray (dl zeroD))) rfl (by kernel_rfl) (by kernel_rfl) (by kernel_rfl) (fun _ _ _ h => h) (yieldsIf_load_mid (by rfl) _ _ rfl _ _ rfl (dl zeroD) _ (fun w hSw => (pf_mem zero_ok hSw.2).r0) Try.underlying23 rfl (HZZ.out)) (by assumption) ?_
          try simp only [Act.put, List.setIfInBounds_toArray, List.set_cons_zero, List.set_cons_succ, List.getElem_toArray, List.getElem_cons_zero, List.getElem_cons_succ]
          refine wpAnyH_take (i := 8) (v := .agg (List.toArray (dl LF.h))) rfl (by kernel_rfl) (by kernel_rfl) (by kernel_rfl) (fun _ _ _ h => h) (yieldsIf_load_mid (by rfl) _ _ rfl _ _ rfl (dl LF.h) _ (fun w hSw => (lk_mem HFH.out hSw.1).r1) Try.underlying23 rfl (HZH.out)) (by assumption) ?_
          try simp only [Act.put, List.setIfInBounds_toArray, List.set_cons_zero, List.set_cons_succ, List.getElem_toArray, List.getElem_cons_zero, List.getElem_cons_succ]
          refine wpAnyH_ready (rs := [6]) (by kernel_rfl) (by simp) ?_
          refine AllReadyH.cons rfl (fun K hK => ?_) AllReadyH.nil
          go_simp
          (go_at_call 20; refine (HON.out wa).mono ?_; rintro e wb ⟨rfl, hbn⟩; have HPb := Lib.hid (HPa.out.later hbn); have HOb := Lib.hid (HOa.out.later hbn); clear hbn HON HPa HOa)
          refine hK.out _ _ (⟨HPb.out.lk, HOb.out.pf⟩) (fun hHeld => ?_)
          clear hK K
          try simp only [Act.put, List.setIfInBounds_toArray, List.set_cons_zero, List.set_cons_succ, List.getElem_toArray, List.getElem_cons_zero, List.getElem_cons_succ]
          refine wpAnyH_take (i := 9) (v := ?_) rfl (by kernel_rfl) (by kernel_rfl) (by kernel_rfl) (fun _ _ _ h => h) (Or.inl ⟨by rfl, ?_⟩) (by assumption) ?_
          rotate_left
          · intro w hSw
            (try dsimp only at hSw)
            go_simp
            try with_reducible rfl
          try simp only [Act.put, List.setIfInBounds_toArray, List.set_cons_zero, List.set_cons_succ, List.getElem_toArray, List.getElem_cons_zero, List.getElem_cons_succ]
          refine wpAnyH_take (i := 10) (v := ?_) rfl (by kernel_rfl) (by kernel_rfl) (by kernel_rfl) (fun _ _ _ h => h) (Or.inl ⟨by rfl, ?_⟩) (by assumption) ?_
          rotate_left
          · intro w hSw
            (try dsimp only at hSw)
            go_simp
            try with_reducible rfl
          try simp only [Act.put, List.setIfInBounds_toArray, List.set_cons_zero, List.set_cons_succ, List.getElem_toArray, List.getElem_cons_zero, List.getElem_cons_succ]
          refine wpAnyH_done (by kernel_rfl) ?_ _
          clear hHeld hkr
          go_wp2_with fail
          go_meet
          exact ⟨by rw [HGD.out] <;> rfl, HPb, HOb⟩
        · have hke : (LF.k == 0) = false := by simpa using hk
          have HGD := Lib.hid (goodL_out hk)
          clear hk
          refine wpAnyH_take (i := 0) (v := ?_) rfl (by kernel_rfl) (by kernel_rfl) (by kernel_rfl) (fun _ _ _ h => h) (Or.inl ⟨by rfl, ?_⟩) (by assumption) ?_
          rotate_left
          · intro w hSw
            (try dsimp only at hSw)
            go_simp
            try with_reducible rfl
          try simp only [Act.put, List.setIfInBounds_toArray, List.set_cons_zero, List.set_cons_succ, List.getElem_toArray, List.getElem_cons_zero, List.getElem_cons_succ]
          refine wpAnyH_take (i := 1) (v := ?_) rfl (by kernel_rfl) (by kernel_rfl) (by kernel_rfl) (fun _ _ _ h => h) (Or.inl ⟨by rfl, ?_⟩) (by assumption) ?_
          rotate_left
          · intro w hSw
            have hcell := (lk_mem HFH.out hSw.1).c0
            clear hSw
            go_simp
            try with_reducible rfl
          try simp only [Act.put, List.setIfInBounds_toArray, List.set_cons_zero, List.set_cons_succ, List.getElem_toArray, List.getElem_cons_zero, List.getElem_cons_succ]
          refine wpAnyH_take (i := 2) (v := ?_) rfl (by kernel_rfl) (by kernel_rfl) (by kernel_rfl) (fun _ _ _ h => h) (Or.inl ⟨by rfl, ?_⟩) (by assumption) ?_
          rotate_left
          · intro w hSw
            (try dsimp only at hSw)
            go_simp
            try with_reducible rfl
          try simp only [Act.put, List.setIfInBounds_toArray, List.set_cons_zero, List.set_cons_succ, List.getElem_toArray, List.getElem_cons_zero, List.getElem_cons_succ]
          refine wpAnyH_take (i := 3) (v := ?_) rfl (by kernel_rfl) (by kernel_rfl) (by kernel_rfl) (fun _ _ _ h => h) (Or.inl ⟨by rfl, ?_⟩) (by assumption) ?_
          rotate_left
          · intro w hSw
            (try dsimp only at hSw)
            go_simp
            try with_reducible rfl
          try simp only [Act.put, List.setIfInBounds_toArray, List.set_cons_zero, List.set_cons_succ, List.getElem_toArray, List.getElem_cons_zero, List.getElem_cons_succ]
          refine wpAnyH_take (i := 4) (v := undef) rfl (by kernel_rfl) (by kernel_rfl) (by kernel_rfl) (fun _ _ _ h => h) (Or.inr ⟨by rfl, rfl⟩) (by assumption) ?_
          try simp only [Act.put, List.setIfInBounds_toArray, List.set_cons_zero, List.set_cons_succ, List.getElem_toArray, List.getElem_cons_zero, List.getElem_cons_succ]
          refine wpAnyH_take (i := 7) (v := undef) rfl (by kernel_rfl) (by kernel_rfl) (by kernel_rfl) (fun _ _ _ h => h) (Or.inr ⟨by rfl, rfl⟩) (by assumption) ?_
          try simp only [Act.put, List.setIfInBounds_toArray, List.set_cons_zero, List.set_cons_succ, List.getElem_toArray, List.getElem_cons_zero, List.getElem_cons_succ]
          refine wpAnyH_take (i := 5) (v := undef) rfl (by kernel_rfl) (by kernel_rfl) (by kernel_rfl) (fun _ _ _ h => h) (Or.inr ⟨by rfl, rfl⟩) (by assumption) ?_
          try simp only [Act.put, List.setIfInBounds_toArray, List.set_cons_zero, List.set_cons_succ, List.getElem_toArray, List.getElem_cons_zero, List.getElem_cons_succ]
          refine wpAnyH_take (i := 8) (v := undef) rfl (by kernel_rfl) (by kernel_rfl) (by kernel_rfl) (fun _ _ _ h => h) (Or.inr ⟨by rfl, rfl⟩) (by assumption) ?_
          try simp only [Act.put, List.setIfInBounds_toArray, List.set_cons_zero, List.set_cons_succ, List.getElem_toArray, List.getElem_cons_zero, List.getElem_cons_succ]
          refine wpAnyH_take (i := 6) (v := undef) rfl (by kernel_rfl) (by kernel_rfl) (by kernel_rfl) (fun _ _ _ h => h) (Or.inr ⟨by rfl, rfl⟩) (by assumption) ?_
          try simp only [Act.put, List.setIfInBounds_toArray, List.set_cons_zero, List.set_cons_succ, List.getElem_toArray, List.getElem_cons_zero, List.getElem_cons_succ]
          refine wpAnyH_take (i := 9) (v := undef) rfl (by kernel_rfl) (by kernel_rfl) (by kernel_rfl) (fun _ _ _ h => h) (Or.inr ⟨by rfl, rfl⟩) (by assumption) ?_
          try simp only [Act.put, List.setIfInBounds_toArray, List.set_cons_zero, List.set_cons_succ, List.getElem_toArray, List.getElem_cons_zero, List.getElem_cons_succ]
          refine wpAnyH_take (i := 10) (v := ?_) rfl (by kernel_rfl) (by kernel_rfl) (by kernel_rfl) (fun _ _ _ h => h) (Or.inl ⟨by rfl, ?_⟩) (by assumption) ?_
          rotate_left
          · intro w hSw
            (try dsimp only at hSw)
            go_simp
            try with_reducible rfl
          try simp only [Act.put, List.setIfInBounds_toArray, List.set_cons_zero, List.set_cons_succ, List.getElem_toArray, List.getElem_cons_zero, List.getElem_cons_succ]
          refine wpAnyH_done (by kernel_rfl) ?_ _
          clear hHeld
          go_wp2_with fail
          go_meet
          exact ⟨by rw [HGD.out] <;> rfl, HPa, HOa⟩
      obtain ⟨rfl, HPt, HOt⟩ := hcut
      obtain ⟨wt, hwt⟩ : ∃ w4, w4 = wc := ⟨_, rfl⟩
      subst hwt
      clear HPs HOs
      refine hK2 _ _ ?_
      clear hK2
      have hwq : wrap64 ((q : Int) - 1) = q - 1 := IntWalk.wrap64_in _ (by have := HHL.out; omega)
      have hwq2 : IntKind.i64.wrap ((q : Int) - 1) = q - 1 := by rw [IntWalk.i64_in]; have := HHL.out; omega
      cases hgd : goodL LF
      · have hr : (rn, re) = if x.u < tm then (0, 19) else (0, 29) := by rw [HR.out, hopO, hgd, if_neg (show ¬ (false = true) by decide)]
        clear hgd
        by_cases hlt : x.u < tm
        · rw [if_pos hlt] at hr
          injection hr with hr1 hr2
          subst hr1; subst hr2
          go_wp2_with fail
          go_roundw
          case rel => exact ⟨q, (q : Int) - 1, fi, was, by omega, by go_num, rfl, rfl, rfl, fun h => ⟨(HWS.out h).1, fun i y hi hy => (HWS.out h).2 i y (by omega) hy⟩, HPt, HOt⟩
          case measure => simp [intOf] <;> omega
        · rw [if_neg hlt] at hr
          injection hr with hr1 hr2
          subst hr1; subst hr2
          go_wp2_with fail
          go_roundw
          case rel => exact ⟨q, (q : Int) - 1, fi, was, by omega, by go_num, rfl, rfl, rfl, fun h => ⟨(HWS.out h).1, fun i y hi hy => (HWS.out h).2 i y (by omega) hy⟩, HPt, HOt⟩
          case measure => simp [intOf] <;> omega
      · have hr : (rn, re) = if x.u < tm then (0, 19) else (LF.c, 0) := by rw [HR.out, hopO, hgd, if_pos rfl]
        have HGD := Lib.hid hgd
        clear hgd
        have hrx := HRX.out _ HPt.out q x HX.out
        have cu : wt.cell? ⟨b, o + q * 13 + 12, none⟩ = some (.int .i64 x.u) := hrx 12 _ (hopC_12 HFH.out n x)
        clear hrx
        by_cases hlt : x.u < tm
        · rw [if_pos hlt] at hr
          injection hr with hr1 hr2
          subst hr1; subst hr2
          have hw0 : was = false := by
            cases was
            · rfl
            · have := (HWS.out rfl).2 q x (by omega) HX.out; omega
          subst hw0
          have hd : decide (tm ≤ x.u) = false := by simp; omega
          go_wp2_with fail
          clear cu hd
          go_roundw
          case rel => exact ⟨q, (q : Int) - 1, fi, false, by omega, by go_num, rfl, rfl, rfl, Lib.hid (fun h => absurd h (by decide)), HPt, HOt⟩
          case measure => simp [intOf] <;> omega
        · rw [if_neg hlt] at hr
          injection hr with hr1 hr2
          subst hr1; subst hr2
          have hd : decide (tm ≤ x.u) = true := by simp; omega
          have HFI : Hid (was = true → fi = LF.c) := fun h => (HWS.out h).1
          have HLE : Hid (∀ (i : Nat) (y : Hop), i < q → hs[i]? = some y → tm ≤ y.u) := fun i y hi hy => by
            have h1 := (HPt.out.us i y hy).1
            have h2 := HXU.out.1
            have h3 := HWI.out
            have h4 : (i : Int) * win ≤ (q : Int) * win := Int.mul_le_mul_of_nonneg_right (by omega) (by omega)
            omega
          cases was
          ·
            go_upto_region 30 with fail
            clear cu hd
            by_cases hq0 : q = 0
            · have hq1 : ¬ ((0 : Int) < q) := by omega
              have hqz : (q : Int) = 0 := by omega
              go_wp2_with fail
              go_roundw
              case rel => exact ⟨q, (q : Int) - 1, LF.c, true, by omega, by go_num, rfl, rfl, rfl, Lib.hid (fun _ => ⟨rfl, HLE.out⟩), HPt, HOt⟩
              case measure => simp [intOf] <;> omega
            · obtain ⟨p, hp⟩ : ∃ p, q = p + 1 := ⟨q - 1, by omega⟩
              subst hp
              have hq1 : (0 : Int) < ((p + 1 : Nat) : Int) := by omega
              have hq2 : (0 : Int) < (p : Int) + 1 := by omega
              obtain ⟨y, hy⟩ : ∃ y, hs[p]? = some y := ⟨hs[p]'(by rw [HM.out]; omega), List.getElem?_eq_getElem _⟩
              have HY := Lib.hid hy
              have HYU : Hid (y.u = x.u + win) := by
                have h1 := (HPt.out.us p y hy).1
                have h2 := HXU.out.1
                show _ = _
                rw [h1, h2]
                push_cast
                rw [Int.add_mul]
                omega
              have HYB : Hid (0 ≤ y.u ∧ y.u ≤ LF.u) := by
                show _ ∧ _
                have h1 := HPt.out.us p y hy
                have h2 := HWI.out
                have h3 : 0 ≤ (p : Int) * win := Int.mul_nonneg (by omega) (by omega)
                omega
              have HYO : Hid (hopO LF y (tm + win) = (LF.c, 0)) := by
                show _ = _
                rw [hopO, if_neg (by have := HYU.out; omega), if_pos HGD.out]
              clear hy hq0
              have hpM : p < M := by omega
              have hpM' : (p : Int) < M := by omega
              have hp0 : (0 : Int) ≤ p := by omega
              have hs1 : wrap64 (p : Int) = p := IntWalk.wrap64_in _ (by have := HHL.out; omega)
              have hs2 : IntKind.i64.wrap (p : Int) = p := by rw [IntWalk.i64_in]; have := HHL.out; omega
              have ht1 : wrap64 (tm + win) = tm + win := IntWalk.wrap64_in _ (by have := HTM.out; have := HWI.out; omega)
              have ht2 : IntKind.i64.wrap (tm + win) = tm + win := by rw [IntWalk.i64_in]; have := HTM.out; have := HWI.out; omega
              go_upto_region 33 with fail
              refine wp_region_held_drew (S := fun w' => w'.rangeAt b (o + p * 13) (hopC LF n y) ∧ Bk w' gp 39 (pfC zeroD (.slice B m D') (.slice E q' G))) (by kernel_rfl) ⟨HRX.out _ (HPt.out.later (below_draws wt _ 1)) p y HY.out, (HOt.out.later (below_draws wt _ 1)).pf⟩ (fun hHeld => ?_)
              have hbd : Below wt.heap.size wt wt.drew := below_draws wt wt.heap.size 1
              obtain ⟨wa, hwa⟩ : ∃ wa, wt.drew = wa := ⟨_, rfl⟩
              rw [hwa] at hbd hHeld ⊢
              have HPa := Lib.hid (HPt.out.later hbd); have HOa := Lib.hid (HOt.out.later hbd)
              clear hwa hbd HPt HOt
              refine wpAnyH_take (i := 0) (v := ?_) rfl (by kernel_rfl) (by kernel_rfl) (by kernel_rfl) (fun _ _ _ h => h) (Or.inl ⟨by rfl, ?_⟩) (by assumption) ?_
              rotate_left
              · intro w hSw
                (try dsimp only at hSw)
                go_simp
                try with_reducible rfl
              try simp only [Act.put, List.setIfInBounds_toArray, List.set_cons_zero, List.set_cons_succ, List.getElem_toArray, List.getElem_cons_zero, List.getElem_cons_succ]
              refine wpAnyH_take (i := 1) (v := ?_) rfl (by kernel_rfl) (by kernel_rfl) (by kernel_rfl) (fun _ _ _ h => h) (Or.inl ⟨by rfl, ?_⟩) (by assumption) ?_
              rotate_left
              · intro w hSw
                (try dsimp only at hSw)
                go_simp
                try with_reducible rfl
              try simp only [Act.put, List.setIfInBounds_toArray, List.set_cons_zero, List.set_cons_succ, List.getElem_toArray, List.getElem_cons_zero, List.getElem_cons_succ]
              refine wpAnyH_take (i := 5) (v := ?_) rfl (by kernel_rfl) (by kernel_rfl) (by kernel_rfl) (fun _ _ _ h => h) (Or.inl ⟨by rfl, ?_⟩) (by assumption) ?_
              rotate_left
              · intro w hSw
                (try dsimp only at hSw)
                go_simp
                try with_reducible rfl
              try simp only [Act.put, List.setIfInBounds_toArray, List.set_cons_zero, List.set_cons_succ, List.getElem_toArray, List.getElem_cons_zero, List.getElem_cons_succ]
              refine wpAnyH_take (i := 7) (v := ?_) rfl (by kernel_rfl) (by kernel_rfl) (by kernel_rfl) (fun _ _ _ h => h) (Or.inl ⟨by rfl, ?_⟩) (by assumption) ?_
              rotate_left
              · intro w hSw
                (try dsimp only at hSw)
                go_simp
                try with_reducible rfl
              try simp only [Act.put, List.setIfInBounds_toArray, List.set_cons_zero, List.set_cons_succ, List.getElem_toArray, List.getElem_cons_zero, List.getElem_cons_succ]
              refine wpAnyH_take (i := 8) (v := ?_) rfl (by kernel_rfl) (by kernel_rfl) (by kernel_rfl) (fun _ _ _ h => h) (Or.inl ⟨by rfl, ?_⟩) (by assumption) ?_
              rotate_left
              · intro w hSw
                (try dsimp only at hSw)
                go_simp
                try with_reducible rfl
              try simp only [Act.put, List.setIfInBounds_toArray, List.set_cons_zero, List.set_cons_succ, List.getElem_toArray, List.getElem_cons_zero, List.getElem_cons_succ]
              refine wpAnyH_take (i := 10) (v := .agg (List.toArray (pfC zeroD (.slice B m D') (.slice E q' G)))) rfl (by kernel_rfl) (by kernel_rfl) (by kernel_rfl) (fun _ _ _ h => h) (yieldsIf_load_mid (by rfl) _ _ rfl _ _ rfl (pfC zeroD (.slice B m D') (.slice E q' G)) _ (fun w hSw => (Bk.range (pre := []) (post := []) (by simpa using hSw.2) rfl)) Try.underlying39 rfl (HPZ.out)) (by assumption) ?_
              try simp only [Act.put, List.setIfInBounds_toArray, List.set_cons_zero, List.set_cons_succ, List.getElem_toArray, List.getElem_cons_zero, List.getElem_cons_succ]
              refine wpAnyH_take (i := 2) (v := ?_) rfl (by kernel_rfl) (by kernel_rfl) (by kernel_rfl) (fun _ _ _ h => h) (Or.inl ⟨by rfl, ?_⟩) (by assumption) ?_
              rotate_left
              · intro w hSw
                (try dsimp only at hSw)
                go_simp
                try with_reducible rfl
              try simp only [Act.put, List.setIfInBounds_toArray, List.set_cons_zero, List.set_cons_succ, List.getElem_toArray, List.getElem_cons_zero, List.getElem_cons_succ]
              refine wpAnyH_take (i := 6) (v := ?_) rfl (by kernel_rfl) (by kernel_rfl) (by kernel_rfl) (fun _ _ _ h => h) (Or.inl ⟨by rfl, ?_⟩) (by assumption) ?_
              rotate_left
              · intro w hSw
                (try dsimp only at hSw)
                go_simp
                try with_reducible rfl
              try simp only [Act.put, List.setIfInBounds_toArray, List.set_cons_zero, List.set_cons_succ, List.getElem_toArray, List.getElem_cons_zero, List.getElem_cons_succ]
              refine wpAnyH_take (i := 9) (v := ?_) rfl (by kernel_rfl) (by kernel_rfl) (by kernel_rfl) (fun _ _ _ h => h) (Or.inl ⟨by rfl, ?_⟩) (by assumption) ?_
              rotate_left
              · intro w hSw
                (try dsimp only at hSw)
                go_simp
                try with_reducible rfl
              try simp only [Act.put, List.setIfInBounds_toArray, List.set_cons_zero, List.set_cons_succ, List.getElem_toArray, List.getElem_cons_zero, List.getElem_cons_succ]
              refine wpAnyH_take (i := 3) (v := ?_) rfl (by kernel_rfl) (by kernel_rfl) (by kernel_rfl) (fun _ _ _ h => h) (Or.inl ⟨by rfl, ?_⟩) (by assumption) ?_
              rotate_left
              · intro w hSw
                (try dsimp only at hSw)
                go_simp
                try with_reducible rfl
              try simp only [Act.put, List.setIfInBounds_toArray, List.set_cons_zero, List.set_cons_succ, List.getElem_toArray, List.getElem_cons_zero, List.getElem_cons_succ]
              refine wpAnyH_take (i := 4) (v := .agg (List.toArray (hopC LF n y))) rfl (by kernel_rfl) (by kernel_rfl) (by kernel_rfl) (fun _ _ _ h => h) (yieldsIf_load_mid (by rfl) _ _ rfl _ _ rfl (hopC LF n y) _ (fun w hSw => hSw.1) Try.underlying26 rfl ((HXZ.out y))) (by assumption) ?_
              try simp only [Act.put, List.setIfInBounds_toArray, List.set_cons_zero, List.set_cons_succ, List.getElem_toArray, List.getElem_cons_zero, List.getElem_cons_succ]
              have hop := HOa.out.open_ (C := y.c) (HKX.out _ HPa.out y (List.mem_of_getElem? HY.out)) (tm + win)
              rw [HOO.out y (tm + win) HYB.out.1 HYB.out.2, HYO.out] at hop
              have HOP := Lib.hid hop
              clear hop
              refine wpAnyH_ready (rs := [11]) (by kernel_rfl) (by simp) ?_
              refine AllReadyH.cons rfl (fun K hK => ?_) AllReadyH.nil
              go_simp
              (go_at_call 13; refine HOP.out.mono ?_; rintro e wb ⟨rfl, hbn⟩; have HPb := Lib.hid (HPa.out.later hbn); have HOb := Lib.hid (HOa.out.later hbn); clear hbn HOP HPa HOa)
              refine hK.out _ _ (⟨HRX.out _ HPb.out p y HY.out, HOb.out.pf⟩) (fun hHeld => ?_)
              clear hK K
              try simp only [Act.put, List.setIfInBounds_toArray, List.set_cons_zero, List.set_cons_succ, List.getElem_toArray, List.getElem_cons_zero, List.getElem_cons_succ]
              refine wpAnyH_take (i := 12) (v := ?_) rfl (by kernel_rfl) (by kernel_rfl) (by kernel_rfl) (fun _ _ _ h => h) (Or.inl ⟨by rfl, ?_⟩) (by assumption) ?_
              rotate_left
              · intro w hSw
                (try dsimp only at hSw)
                go_simp
                try with_reducible rfl
              try simp only [Act.put, List.setIfInBounds_toArray, List.set_cons_zero, List.set_cons_succ, List.getElem_toArray, List.getElem_cons_zero, List.getElem_cons_succ]
              refine wpAnyH_take (i := 13) (v := ?_) rfl (by kernel_rfl) (by kernel_rfl) (by kernel_rfl) (fun _ _ _ h => h) (Or.inl ⟨by rfl, ?_⟩) (by assumption) ?_
              rotate_left
              · intro w hSw
                (try dsimp only at hSw)
                go_simp
                try with_reducible rfl
              try simp only [Act.put, List.setIfInBounds_toArray, List.set_cons_zero, List.set_cons_succ, List.getElem_toArray, List.getElem_cons_zero, List.getElem_cons_succ]
              refine wpAnyH_take (i := 14) (v := ?_) rfl (by kernel_rfl) (by kernel_rfl) (by kernel_rfl) (fun _ _ _ h => h) (Or.inl ⟨by rfl, ?_⟩) (by assumption) ?_
              rotate_left
              · intro w hSw
                (try dsimp only at hSw)
                go_simp
                try with_reducible rfl
              try simp only [Act.put, List.setIfInBounds_toArray, List.set_cons_zero, List.set_cons_succ, List.getElem_toArray, List.getElem_cons_zero, List.getElem_cons_succ]
              refine wpAnyH_take (i := 15) (v := ?_) rfl (by kernel_rfl) (by kernel_rfl) (by kernel_rfl) (fun _ _ _ h => h) (Or.inl ⟨by rfl, ?_⟩) (by assumption) ?_
              rotate_left
              · intro w hSw
                (try dsimp only at hSw)
                go_simp
                try with_reducible rfl
              try simp only [Act.put, List.setIfInBounds_toArray, List.set_cons_zero, List.set_cons_succ, List.getElem_toArray, List.getElem_cons_zero, List.getElem_cons_succ]
              refine wpAnyH_take (i := 16) (v := ?_) rfl (by kernel_rfl) (by kernel_rfl) (by kernel_rfl) (fun _ _ _ h => h) (Or.inl ⟨by rfl, ?_⟩) (by assumption) ?_
              rotate_left
              · intro w hSw
                (try dsimp only at hSw)
                go_simp
                try with_reducible rfl
              try simp only [Act.put, List.setIfInBounds_toArray, List.set_cons_zero, List.set_cons_succ, List.getElem_toArray, List.getElem_cons_zero, List.getElem_cons_succ]
              refine wpAnyH_done (by kernel_rfl) ?_ _
              clear hHeld
              go_wp2_with fail
              go_roundw
              case rel => exact ⟨p + 1, (p : Int), LF.c, true, by omega, by go_num, by push_cast; omega, rfl, rfl, Lib.hid (fun _ => ⟨rfl, HLE.out⟩), HPb, HOb⟩
              case measure => simp [intOf] <;> omega
          · obtain rfl : fi = LF.c := HFI.out rfl
            have hcc : (LF.c != LF.c) = false := by simp
            go_upto_region 30 with fail
            clear cu hd
            by_cases hq0 : q = 0
            · have hq1 : ¬ ((0 : Int) < q) := by omega
              have hqz : (q : Int) = 0 := by omega
              go_wp2_with fail
              go_roundw
              case rel => exact ⟨q, (q : Int) - 1, LF.c, true, by omega, by go_num, rfl, rfl, rfl, Lib.hid (fun _ => ⟨rfl, HLE.out⟩), HPt, HOt⟩
              case measure => simp [intOf] <;> omega
            · obtain ⟨p, hp⟩ : ∃ p, q = p + 1 := ⟨q - 1, by omega⟩
              subst hp
              have hq1 : (0 : Int) < ((p + 1 : Nat) : Int) := by omega
              have hq2 : (0 : Int) < (p : Int) + 1 := by omega
              obtain ⟨y, hy⟩ : ∃ y, hs[p]? = some y := ⟨hs[p]'(by rw [HM.out]; omega), List.getElem?_eq_getElem _⟩
              have HY := Lib.hid hy
              have HYU : Hid (y.u = x.u + win) := by
                have h1 := (HPt.out.us p y hy).1
                have h2 := HXU.out.1
                show _ = _
                rw [h1, h2]
                push_cast
                rw [Int.add_mul]
                omega
              have HYB : Hid (0 ≤ y.u ∧ y.u ≤ LF.u) := by
                show _ ∧ _
                have h1 := HPt.out.us p y hy
                have h2 := HWI.out
                have h3 : 0 ≤ (p : Int) * win := Int.mul_nonneg (by omega) (by omega)
                omega
              have HYO : Hid (hopO LF y (tm + win) = (LF.c, 0)) := by
                show _ = _
                rw [hopO, if_neg (by have := HYU.out; omega), if_pos HGD.out]
              clear hy hq0
              have hpM : p < M := by omega
              have hpM' : (p : Int) < M := by omega
              have hp0 : (0 : Int) ≤ p := by omega
              have hs1 : wrap64 (p : Int) = p := IntWalk.wrap64_in _ (by have := HHL.out; omega)
              have hs2 : IntKind.i64.wrap (p : Int) = p := by rw [IntWalk.i64_in]; have := HHL.out; omega
              have ht1 : wrap64 (tm + win) = tm + win := IntWalk.wrap64_in _ (by have := HTM.out; have := HWI.out; omega)
              have ht2 : IntKind.i64.wrap (tm + win) = tm + win := by rw [IntWalk.i64_in]; have := HTM.out; have := HWI.out; omega
              go_upto_region 33 with fail
              refine wp_region_held_drew (S := fun w' => w'.rangeAt b (o + p * 13) (hopC LF n y) ∧ Bk w' gp 39 (pfC zeroD (.slice B m D') (.slice E q' G))) (by kernel_rfl) ⟨HRX.out _ (HPt.out.later (below_draws wt _ 1)) p y HY.out, (HOt.out.later (below_draws wt _ 1)).pf⟩ (fun hHeld => ?_)
              have hbd : Below wt.heap.size wt wt.drew := below_draws wt wt.heap.size 1
              obtain ⟨wa, hwa⟩ : ∃ wa, wt.drew = wa := ⟨_, rfl⟩
              rw [hwa] at hbd hHeld ⊢
              have HPa := Lib.hid (HPt.out.later hbd); have HOa := Lib.hid (HOt.out.later hbd)
              clear hwa hbd HPt HOt
              refine wpAnyH_take (i := 0) (v := ?_) rfl (by kernel_rfl) (by kernel_rfl) (by kernel_rfl) (fun _ _ _ h => h) (Or.inl ⟨by rfl, ?_⟩) (by assumption) ?_
              rotate_left
              · intro w hSw
                (try dsimp only at hSw)
                go_simp
                try with_reducible rfl
              try simp only [Act.put, List.setIfInBounds_toArray, List.set_cons_zero, List.set_cons_succ, List.getElem_toArray, List.getElem_cons_zero, List.getElem_cons_succ]
              refine wpAnyH_take (i := 1) (v := ?_) rfl (by kernel_rfl) (by kernel_rfl) (by kernel_rfl) (fun _ _ _ h => h) (Or.inl ⟨by rfl, ?_⟩) (by assumption) ?_
              rotate_left
              · intro w hSw
                (try dsimp only at hSw)
                go_simp
                try with_reducible rfl
              try simp only [Act.put, List.setIfInBounds_toArray, List.set_cons_zero, List.set_cons_succ, List.getElem_toArray, List.getElem_cons_zero, List.getElem_cons_succ]
              refine wpAnyH_take (i := 5) (v := ?_) rfl (by kernel_rfl) (by kernel_rfl) (by kernel_rfl) (fun _ _ _ h => h) (Or.inl ⟨by rfl, ?_⟩) (by assumption) ?_
              rotate_left
              · intro w hSw
                (try dsimp only at hSw)
                go_simp
                try with_reducible rfl
              try simp only [Act.put, List.setIfInBounds_toArray, List.set_cons_zero, List.set_cons_succ, List.getElem_toArray, List.getElem_cons_zero, List.getElem_cons_succ]
              refine wpAnyH_take (i := 7) (v := ?_) rfl (by kernel_rfl) (by kernel_rfl) (by kernel_rfl) (fun _ _ _ h => h) (Or.inl ⟨by rfl, ?_⟩) (by assumption) ?_
              rotate_left
              · intro w hSw
                (try dsimp only at hSw)
                go_simp
                try with_reducible rfl
              try simp only [Act.put, List.setIfInBounds_toArray, List.set_cons_zero, List.set_cons_succ, List.getElem_toArray, List.getElem_cons_zero, List.getElem_cons_succ]
              refine wpAnyH_take (i := 8) (v := ?_) rfl (by kernel_rfl) (by kernel_rfl) (by kernel_rfl) (fun _ _ _ h => h) (Or.inl ⟨by rfl, ?_⟩) (by assumption) ?_
              rotate_left
              · intro w hSw
                (try dsimp only at hSw)
                go_simp
                try with_reducible rfl
              try simp only [Act.put, List.setIfInBounds_toArray, List.set_cons_zero, List.set_cons_succ, List.getElem_toArray, List.getElem_cons_zero, List.getElem_cons_succ]
              refine wpAnyH_take (i := 10) (v := .agg (List.toArray (pfC zeroD (.slice B m D') (.slice E q' G)))) rfl (by kernel_rfl) (by kernel_rfl) (by kernel_rfl) (fun _ _ _ h => h) (yieldsIf_load_mid (by rfl) _ _ rfl _ _ rfl (pfC zeroD (.slice B m D') (.slice E q' G)) _ (fun w hSw => (Bk.range (pre := []) (post := []) (by simpa using hSw.2) rfl)) Try.underlying39 rfl (HPZ.out)) (by assumption) ?_
              try simp only [Act.put, List.setIfInBounds_toArray, List.set_cons_zero, List.set_cons_succ, List.getElem_toArray, List.getElem_cons_zero, List.getElem_cons_succ]
              refine wpAnyH_take (i := 2) (v := ?_) rfl (by kernel_rfl) (by kernel_rfl) (by kernel_rfl) (fun _ _ _ h => h) (Or.inl ⟨by rfl, ?_⟩) (by assumption) ?_
              rotate_left
              · intro w hSw
                (try dsimp only at hSw)
                go_simp
                try with_reducible rfl
              try simp only [Act.put, List.setIfInBounds_toArray, List.set_cons_zero, List.set_cons_succ, List.getElem_toArray, List.getElem_cons_zero, List.getElem_cons_succ]
              refine wpAnyH_take (i := 6) (v := ?_) rfl (by kernel_rfl) (by kernel_rfl) (by kernel_rfl) (fun _ _ _ h => h) (Or.inl ⟨by rfl, ?_⟩) (by assumption) ?_
              rotate_left
              · intro w hSw
                (try dsimp only at hSw)
                go_simp
                try with_reducible rfl
              try simp only [Act.put, List.setIfInBounds_toArray, List.set_cons_zero, List.set_cons_succ, List.getElem_toArray, List.getElem_cons_zero, List.getElem_cons_succ]
              refine wpAnyH_take (i := 9) (v := ?_) rfl (by kernel_rfl) (by kernel_rfl) (by kernel_rfl) (fun _ _ _ h => h) (Or.inl ⟨by rfl, ?_⟩) (by assumption) ?_
              rotate_left
              · intro w hSw
                (try dsimp only at hSw)
                go_simp
                try with_reducible rfl
              try simp only [Act.put, List.setIfInBounds_toArray, List.set_cons_zero, List.set_cons_succ, List.getElem_toArray, List.getElem_cons_zero, List.getElem_cons_succ]
              refine wpAnyH_take (i := 3) (v := ?_) rfl (by kernel_rfl) (by kernel_rfl) (by kernel_rfl) (fun _ _ _ h => h) (Or.inl ⟨by rfl, ?_⟩) (by assumption) ?_
              rotate_left
              · intro w hSw
                (try dsimp only at hSw)
                go_simp
                try with_reducible rfl
              try simp only [Act.put, List.setIfInBounds_toArray, List.set_cons_zero, List.set_cons_succ, List.getElem_toArray, List.getElem_cons_zero, List.getElem_cons_succ]
              refine wpAnyH_take (i := 4) (v := .agg (List.toArray (hopC LF n y))) rfl (by kernel_rfl) (by kernel_rfl) (by kernel_rfl) (fun _ _ _ h => h) (yieldsIf_load_mid (by rfl) _ _ rfl _ _ rfl (hopC LF n y) _ (fun w hSw => hSw.1) Try.underlying26 rfl ((HXZ.out y))) (by assumption) ?_
              try simp only [Act.put, List.setIfInBounds_toArray, List.set_cons_zero, List.set_cons_succ, List.getElem_toArray, List.getElem_cons_zero, List.getElem_cons_succ]
              have hop := HOa.out.open_ (C := y.c) (HKX.out _ HPa.out y (List.mem_of_getElem? HY.out)) (tm + win)
              rw [HOO.out y (tm + win) HYB.out.1 HYB.out.2, HYO.out] at hop
              have HOP := Lib.hid hop
              clear hop
              refine wpAnyH_ready (rs := [11]) (by kernel_rfl) (by simp) ?_
              refine AllReadyH.cons rfl (fun K hK => ?_) AllReadyH.nil
              go_simp
              (go_at_call 13; refine HOP.out.mono ?_; rintro e wb ⟨rfl, hbn⟩; have HPb := Lib.hid (HPa.out.later hbn); have HOb := Lib.hid (HOa.out.later hbn); clear hbn HOP HPa HOa)
              refine hK.out _ _ (⟨HRX.out _ HPb.out p y HY.out, HOb.out.pf⟩) (fun hHeld => ?_)
              clear hK K
              try simp only [Act.put, List.setIfInBounds_toArray, List.set_cons_zero, List.set_cons_succ, List.getElem_toArray, List.getElem_cons_zero, List.getElem_cons_succ]
              refine wpAnyH_take (i := 12) (v := ?_) rfl (by kernel_rfl) (by kernel_rfl) (by kernel_rfl) (fun _ _ _ h => h) (Or.inl ⟨by rfl, ?_⟩) (by assumption) ?_
              rotate_left
              · intro w hSw
                (try dsimp only at hSw)
                go_simp
                try with_reducible rfl
              try simp only [Act.put, List.setIfInBounds_toArray, List.set_cons_zero, List.set_cons_succ, List.getElem_toArray, List.getElem_cons_zero, List.getElem_cons_succ]
              refine wpAnyH_take (i := 13) (v := ?_) rfl (by kernel_rfl) (by kernel_rfl) (by kernel_rfl) (fun _ _ _ h => h) (Or.inl ⟨by rfl, ?_⟩) (by assumption) ?_
              rotate_left
              · intro w hSw
                (try dsimp only at hSw)
                go_simp
                try with_reducible rfl
              try simp only [Act.put, List.setIfInBounds_toArray, List.set_cons_zero, List.set_cons_succ, List.getElem_toArray, List.getElem_cons_zero, List.getElem_cons_succ]
              refine wpAnyH_take (i := 14) (v := ?_) rfl (by kernel_rfl) (by kernel_rfl) (by kernel_rfl) (fun _ _ _ h => h) (Or.inl ⟨by rfl, ?_⟩) (by assumption) ?_
              rotate_left
              · intro w hSw
                (try dsimp only at hSw)
                go_simp
                try with_reducible rfl
              try simp only [Act.put, List.setIfInBounds_toArray, List.set_cons_zero, List.set_cons_succ, List.getElem_toArray, List.getElem_cons_zero, List.getElem_cons_succ]
              refine wpAnyH_take (i := 15) (v := ?_) rfl (by kernel_rfl) (by kernel_rfl) (by kernel_rfl) (fun _ _ _ h => h) (Or.inl ⟨by rfl, ?_⟩) (by assumption) ?_
              rotate_left
              · intro w hSw
                (try dsimp only at hSw)
                go_simp
                try with_reducible rfl
              try simp only [Act.put, List.setIfInBounds_toArray, List.set_cons_zero, List.set_cons_succ, List.getElem_toArray, List.getElem_cons_zero, List.getElem_cons_succ]
              refine wpAnyH_take (i := 16) (v := ?_) rfl (by kernel_rfl) (by kernel_rfl) (by kernel_rfl) (fun _ _ _ h => h) (Or.inl ⟨by rfl, ?_⟩) (by assumption) ?_
              rotate_left
              · intro w hSw
                (try dsimp only at hSw)
                go_simp
                try with_reducible rfl
              try simp only [Act.put, List.setIfInBounds_toArray, List.set_cons_zero, List.set_cons_succ, List.getElem_toArray, List.getElem_cons_zero, List.getElem_cons_succ]
              refine wpAnyH_done (by kernel_rfl) ?_ _
              clear hHeld
              go_wp2_with fail
              go_roundw
              case rel => exact ⟨p + 1, (p : Int), LF.c, true, by omega, by go_num, by push_cast; omega, rfl, rfl, Lib.hid (fun _ => ⟨rfl, HLE.out⟩), HPb, HOb⟩
              case measure => simp [intOf] <;> omega
end Go.Proofs.Ytbclfjdamklbpaa
