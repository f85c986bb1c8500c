/- When a lock opens, and when it goes back: the walk of LockTimes. -/
import Derived.Test.YtbclfjdamklbpaaLI
namespace Go.Proofs.Ytbclfjdamklbpaa
set_option linter.unusedSimpArgs false
set_option linter.unusedVariables false
open Go.RowKit Go.Maps

/-- A lock, its proof, and what its opening says. -/
structure TI (w wk : World) (g z gp : Nat) (es : List Ent) (L : LkT) (A : Option Addr) (n C : Nat) (B : Option Addr) (m D : Nat) (E : Option Addr) (q G : Nat) (zs : List Int) (ps : List Pc) : Prop where
  t : TO w wk g es z L A n C
  o : OP wk w.heap.size g es gp n B m D E q G zs ps
  h : DgOk L.h
  ko : DsOk L.ks
  n8 : n ≤ 8
  ck : checkL L.k L.s L.c L.u n = 0
  cc : 1 ≤ L.c
  op : ∀ now, openO es L n now zeroD zs ps = if L.u < now then (0, 19) else (L.c, 0)
theorem TI.later {w wk wn : World} {g z gp n C m D q G : Nat} {es : List Ent} {L : LkT} {A B E : Option Addr} {zs : List Int} {ps : List Pc} (h : TI w wk g z gp es L A n C B m D E q G zs ps) (hb : Below wk.heap.size wk wn) : TI w wn g z gp es L A n C B m D E q G zs ps :=
  ⟨h.t.later hb, h.o.later hb, h.h, h.ko, h.n8, h.ck, h.cc, h.op⟩
theorem TI.kk {w wk : World} {g z gp n C m D q G : Nat} {es : List Ent} {L : LkT} {A B E : Option Addr} {zs : List Int} {ps : List Pc} (h : TI w wk g z gp es L A n C B m D E q G zs ps) : LkK wk L A n :=
  ⟨Sl.of_own h.t.k, h.ko, h.h, by have := h.n8; omega⟩
theorem lkC_ks (k : Int) (h : List Int) (ks ks' : List (List Int)) (s c u : Int) (p : Value) : lkC ⟨k, h, ks, s, c, u⟩ p = lkC ⟨k, h, ks', s, c, u⟩ p := rfl
set_option maxRecDepth 20000 in
set_option maxHeartbeats 8000000 in
theorem ltimes_any (w : World) (L : LkT) (hh : DgOk L.h) (A : Option Addr) (N C : Nat) (hC : N ≤ C) (hN : N ≤ 9223372036854775807) (i1 i2 : Int) :
    Calls Try.prog 6 #[.agg (lkC L (.slice A N C)).toArray, .int .i64 i1, .int .i64 i2] w fun e w' => e = .returned (.bool true) ∧ Below w.heap.size w w' := by
  have HFX := Lib.hid (fun w' => fix_any w' L hh A N C hC hN)
  have HFF := Lib.hid (fixL_facts L N)
  have HF1 : Hid ((fixL L N).k ≠ 0 → (fixL L N).k = 1 ∧ 2 ≤ fixN L N ∧ 0 ≤ (fixL L N).s ∧ (fixL L N).s < fixN L N ∧ 1 ≤ (fixL L N).c) := fixL_one
  have HLS0 := Lib.hid (lk_sz hh (.slice A N C))
  have HLN0 := Lib.hid (lkC_len hh (.slice A N C))
  have HFH : Hid (DgOk (fixL L N).h) := by show DgOk _; rw [(fixL_facts L N).1]; exact hh
  obtain ⟨l, hl⟩ : ∃ x, lkC L (.slice A N C) = x := ⟨_, rfl⟩
  obtain ⟨X, hX⟩ : ∃ X, l.toArray = X := ⟨_, rfl⟩
  obtain ⟨z, hzz⟩ : ∃ z, w.heap.size = z := ⟨_, rfl⟩
  obtain ⟨w1, hw1⟩ : ∃ w1, w.alloc (.cells X 26) = w1 := ⟨_, rfl⟩
  have hb1 : Below w.heap.size w w1 := hw1 ▸ below_new w _
  have kx : Bk w1 z 26 l := hw1 ▸ Bk.at_ w _ X hzz (by rw [← hX])
  have HW := Lib.hid hw1; have HB1 := Lib.hid hb1; have HL1 := Lib.hid kx; have HZ := Lib.hid hzz
  rw [hl] at HFX HLS0 HLN0 ⊢
  rw [hX] at HFX ⊢
  obtain ⟨LF, hLF⟩ : ∃ x, fixL L N = x := ⟨_, rfl⟩
  obtain ⟨n, hn⟩ : ∃ x, fixN L N = x := ⟨_, rfl⟩
  unfold RetFx at HFX
  rw [hLF, hn] at HFX HFF HF1
  rw [hLF] at HFH
  have HXE := Lib.hid hX
  clear hl hX hw1 hb1 kx hh hzz hLF hn
  go_enter Try.func6, Try.ntmps6
  go_upto_region 1 with fail
  rw [HW.out, HZ.out]
  go_wp2_with (with_reducible refine wpList_load_bk rfl 26 _ rfl z rfl l 26 HL1.out _ Try.underlying26 rfl HLS0.out ?_)
  rw [HXE.out]
  refine (HFX.out w1).mono ?_
  rintro e w3 ⟨A', C', rfl, hown, hbn⟩
  have HB3 := Lib.hid (below_then HB1.out hbn); have HL3 := Lib.hid (HL1.out.later hbn); have HK3 := Lib.hid (own_base hown HB1.out.size)
  clear hown hbn HL1 HFX
  go_wp2_with (with_reducible refine stop_store 26 _ _ rfl ?_)
  refine StopD.go ?_
  refine wpList_store_part rfl 26 _ _ rfl z 0 (.agg (lkC LF (.slice A' n C')).toArray) (lkC LF (.slice A' n C')) rfl rfl rfl 26 [] l [] (by simpa using HL3.out) rfl (by rw [lkC_len HFH.out, HLN0.out]) (lk_sz HFH.out _) (lk_one _ _ _ _) ?_
  intro w4 hp
  have HL4 : Hid (Bk w4 z 26 (lkC LF (.slice A' n C'))) := by show Bk _ _ _ _; have := hp.bk; simpa using this
  have HK4 := Lib.hid (own_only HK3.out hp.only (own_bk_ne HK3.out HL3.out (by decide)))
  have HB4 := Lib.hid (below_only HB3.out hp.only HB3.out.size (Nat.le_of_eq HZ.out))
  clear hp HB3 HL3 HK3
  have HNB : Hid (n ≤ 8 ∧ 1 ≤ LF.c ∧ LF.c ≤ 1000 ∧ 0 ≤ LF.u ∧ LF.u < 2000) := by
    have h1 := HFF.out
    obtain ⟨e1, _, e3, _, _⟩ := checkL_zero h1.2.2.2.2.1
    exact ⟨h1.2.2.1, e1, h1.2.2.2.2.2.1, e3, h1.2.2.2.2.2.2⟩
  have HKO : Hid (DsOk LF.ks) := HFF.out.2.1
  have HKL : Hid (LF.ks.length = n) := HFF.out.2.2.2.1
  have HCZ : Hid (checkL LF.k LF.s LF.c LF.u n = 0) := HFF.out.2.2.2.2.1
  have HSL := Lib.hid (lk_sz HFH.out (.slice A' n C'))
  clear HFF HB1
  go_wp2_with fail
  refine (newBook_any w4).mono ?_
  rintro e w2 ⟨⟨g, rfl, hbk⟩, hbn⟩
  have HBK2 := Lib.hid (hbk.low HB4.out.size); have HB2 := Lib.hid (below_then HB4.out hbn); have HL2 := Lib.hid (HL4.out.later hbn); have HK2 := Lib.hid (own_keep HK4.out hbn)
  clear hbk hbn HB4 HL4 HK4
  go_wp2_with fail
  refine (ltold_any w2).mono ?_
  rintro e w3 ⟨rfl, hbn⟩
  have HT3 : Hid (TO w w3 g [] z LF A' n C') := TO.later ⟨HL2.out, HK2.out, HBK2.out, HB2.out⟩ hbn
  clear hbn HBK2 HB2 HL2 HK2
  have hbq : ∀ W, (Instr.build 39 #[]).run Try.prog W = .ok (.agg zPf.toArray) W := fun W => by kernel_rfl
  go_wp2_with (first
    | ((with_reducible refine wpList_build rfl 39 _ rfl #[] ?_ _ (hbq _) ?_); focus (simp [Act.eval, Act.put]; done))
    | (with_reducible refine stop_store 39 _ _ rfl ?_))
  clear hbq
  refine StopD.go ?_
  obtain ⟨gp, hgp⟩ : ∃ q, w3.heap.size = q := ⟨_, rfl⟩
  obtain ⟨w5, hw5⟩ : ∃ w', w3.alloc (.cells #[.int .u8 0, .int .u8 0, .int .u8 0, .int .u8 0, .int .u8 0, .int .u8 0, .int .u8 0, .int .u8 0, .slice none 0 0, .slice none 0 0] 39) = w' := ⟨_, rfl⟩
  have hbn : Below w3.heap.size w3 w5 := hw5 ▸ below_new w3 _
  have kt : Bk w5 gp 39 ([] ++ (zPf ++ [])) := by rw [← hw5]; exact Bk.at_ w3 _ _ hgp rfl
  rw [hgp, hw5]
  refine wpList_store_part rfl 39 _ _ rfl gp 0 (.agg zPf.toArray) zPf rfl rfl rfl 39 [] zPf [] kt rfl rfl (pf_sz zero_ok _ _) (pf_one _ _ _ _ _ _ _) ?_
  intro w6 hp
  have hbn : Below w3.heap.size w3 w6 := hbn.grown hp.only hbn.size (fun q' hq' => by injection hq' with hq'; omega)
  have HF6 : Hid (Bk w6 gp 39 zPf) := by show Bk _ _ _ _; have := hp.bk; simpa using this
  have HT6 := Lib.hid (HT3.out.later hbn)
  have HGP : Hid (w.heap.size ≤ gp) := by show _ ≤ gp; rw [← hgp]; exact HT3.out.hb.size
  have HZG : Hid (z < gp) := by show z < gp; rw [← hgp]; exact HT3.out.lk.lt
  clear hp hbn kt hgp hw5 HT3
  go_upto_region 6 with fail
  simp only [Act.put]
  have c0 := (lk_mem HFH.out HT6.out.lk).c0
  go_cut [30] (fun v wx => v = .bool (LF.k == 0) ∧ wx = w6)
  case first =>
    go_wp2_with fail
    go_meet
    exact ⟨rfl, rfl⟩
  obtain ⟨rfl, hwx⟩ := hcut
  have hwx := hwx.symm
  subst hwx
  clear c0
  refine ‹∀ (a : Act) (w : World), Code.wp _ _ _ a w → _› _ _ ?_
  go_cut [8] (fun v wx => v = .pointer (some ⟨gp, 0, none⟩) ∧ ∃ (es : List Ent) (LX : LkT) (B E : Option Addr) (m D q G : Nat) (zs : List Int) (ps : List Pc), Hid (TI w wx g z gp es LX A' n C' B m D E q G zs ps) ∧ Hid (LX.c = LF.c ∧ LX.u = LF.u))
  case first =>
    as_aux_lemma =>
    by_cases hk : LF.k = 0
    · have hn0 : n = 0 := by
        obtain ⟨_, _, _, _, e5⟩ := checkL_zero HCZ.out
        omega
      subst hn0
      have hke : (LF.k == 0) = true := by simpa using hk
      have HPZ := Lib.hid (hdg_size _ zero_ok)
      have HOK : Hid (DgOk (oneI zeroD)) := oneI_ok zeroD
      go_wp2_with (with_reducible refine wpList_load_mid rfl 23 _ rfl gp 0 rfl (dl zeroD) _ (pf_mem zero_ok HF6.out).r0 Try.underlying23 rfl HPZ.out ?_)
      refine (one_any w6 zeroD zero_ok).mono ?_
      rintro e w7 ⟨rfl, hbn⟩
      have HT7 := Lib.hid (HT6.out.later hbn); have HF7 := Lib.hid (HF6.out.later hbn)
      clear hbn HT6 HF6
      obtain ⟨o, ho⟩ : ∃ o, oneI zeroD = o := ⟨_, rfl⟩
      rw [ho] at HOK ⊢
      go_wp2_with (with_reducible refine stop_store 23 _ _ rfl ?_)
      refine StopD.go ?_
      clear hke
      obtain ⟨kk, h, ks, s, c, u⟩ := LF
      have hk : kk = 0 := hk
      subst hk
      refine wpList_store_part rfl 23 _ _ rfl z 1 (.agg (dl o).toArray) (dl o) rfl rfl rfl 26 [.int .i64 0] (dl h) [.slice A' 0 C', .int .i64 s, .int .i64 c, .int .i64 u] (by have := HT7.out.lk; simpa [lkC] using this) rfl (by rw [dl_len, dl_len, HFH.out.len, HOK.out.len]) (hdg_size _ HOK.out) (dl_one' _) ?_
      intro w8 hp
      have HL8 : Hid (Bk w8 z 26 (lkC ⟨0, o, ks, s, c, u⟩ (.slice A' 0 C'))) := by show Bk _ _ _ _; have := hp.bk; simpa [lkC] using this
      have HT8 : Hid (TO w w8 g [] z ⟨0, o, ks, s, c, u⟩ A' 0 C') := ⟨HL8.out, own_only HT7.out.k hp.only (own_bk_ne HT7.out.k HT7.out.lk (by decide)), HT7.out.bk.put hp HT7.out.lk (by decide) (by decide), below_only HT7.out.hb hp.only HT7.out.hb.size (Nat.le_of_eq HZ.out)⟩
      have HF8 := Lib.hid (HF7.out.grown hp.only (by intro e; injection e with e; have := HZG.out; omega))
      clear hp HL8 HT7 HF7
      go_wp2_with fail
      go_meet
      refine ⟨rfl, [], ⟨0, o, ks, s, c, u⟩, none, none, 0, 0, 0, 0, [], [], ⟨HT8.out, OP.none_ HT8.out.bk HF8.out, HOK.out, HKO.out, by omega, HCZ.out, HNB.out.2.1, fun now => ?_⟩, rfl, rfl⟩
      rw [openO_key HCZ.out rfl, keyO]
      show (if u < now then (0, 19) else if oneI zeroD = o then (c, 0) else (0, 29)) = _
      rw [if_pos ho]
    · have HN2 : Hid (2 ≤ n) := (HF1.out hk).2.1
      have hke : (LF.k == 0) = false := by simpa using hk
      have HKN := Lib.hid hk
      clear hk
      go_upto_region 8 with fail
      clear hke
      refine wp_region_held_drew (S := fun w' => Bk w' z 26 (lkC LF (.slice A' n C'))) (by kernel_rfl) (Bk.drew HT6.out.lk) (fun hHeld => ?_)
      have hbd : Below w6.heap.size w6 w6.drew := below_draws w6 w6.heap.size 1
      obtain ⟨wa, hwa⟩ : ∃ wa, w6.drew = wa := ⟨_, rfl⟩
      rw [hwa] at hbd hHeld ⊢
      have HTa := Lib.hid (HT6.out.later hbd); have HFa := Lib.hid (HF6.out.later hbd)
      clear hwa hbd HT6 HF6
      refine wpAnyH_take (i := 0) (v := ?_) rfl (by kernel_rfl) (by kernel_rfl) (by kernel_rfl) (fun _ _ _ h => h) (Or.inl ⟨by rfl, ?_⟩) (by assumption) ?_
      rotate_left
      · intro w hSw
        (try dsimp only at hSw)
        go_simp
        try with_reducible rfl
      try simp only [Act.put, List.setIfInBounds_toArray, List.set_cons_zero, List.set_cons_succ, List.getElem_toArray, List.getElem_cons_zero, List.getElem_cons_succ]
      refine wpAnyH_take (i := 1) (v := .agg (List.toArray (lkC LF (.slice A' n C')))) rfl (by kernel_rfl) (by kernel_rfl) (by kernel_rfl) (fun _ _ _ h => h) (yieldsIf_load_mid (by rfl) _ _ rfl _ _ rfl (lkC LF (.slice A' n C')) _ (fun w hSw => (Bk.range (pre := []) (post := []) (by simpa using hSw) rfl)) Try.underlying26 rfl (HSL.out)) (by assumption) ?_
      try simp only [Act.put, List.setIfInBounds_toArray, List.set_cons_zero, List.set_cons_succ, List.getElem_toArray, List.getElem_cons_zero, List.getElem_cons_succ]
      refine wpAnyH_take (i := 2) (v := ?_) rfl (by kernel_rfl) (by kernel_rfl) (by kernel_rfl) (fun _ _ _ h => h) (Or.inl ⟨by rfl, ?_⟩) (by assumption) ?_
      rotate_left
      · intro w hSw
        (try dsimp only at hSw)
        go_simp
        try with_reducible rfl
      try simp only [Act.put, List.setIfInBounds_toArray, List.set_cons_zero, List.set_cons_succ, List.getElem_toArray, List.getElem_cons_zero, List.getElem_cons_succ]
      refine wpAnyH_take (i := 6) (v := ?_) rfl (by kernel_rfl) (by kernel_rfl) (by kernel_rfl) (fun _ _ _ h => h) (Or.inl ⟨by rfl, ?_⟩) (by assumption) ?_
      rotate_left
      · intro w hSw
        (try dsimp only at hSw)
        go_simp
        try with_reducible rfl
      try simp only [Act.put, List.setIfInBounds_toArray, List.set_cons_zero, List.set_cons_succ, List.getElem_toArray, List.getElem_cons_zero, List.getElem_cons_succ]
      refine wpAnyH_take (i := 3) (v := ?_) rfl (by kernel_rfl) (by kernel_rfl) (by kernel_rfl) (fun _ _ _ h => h) (Or.inl ⟨by rfl, ?_⟩) (by assumption) ?_
      rotate_left
      · intro w hSw
        have hcell := (lk_mem HFH.out hSw).c9
        clear hSw
        go_simp
        try with_reducible rfl
      try simp only [Act.put, List.setIfInBounds_toArray, List.set_cons_zero, List.set_cons_succ, List.getElem_toArray, List.getElem_cons_zero, List.getElem_cons_succ]
      refine wpAnyH_take (i := 7) (v := ?_) rfl (by kernel_rfl) (by kernel_rfl) (by kernel_rfl) (fun _ _ _ h => h) (Or.inl ⟨by rfl, ?_⟩) (by assumption) ?_
      rotate_left
      · intro w hSw
        have hcell := (lk_mem HFH.out hSw).c9
        clear hSw
        go_simp
        try with_reducible rfl
      try simp only [Act.put, List.setIfInBounds_toArray, List.set_cons_zero, List.set_cons_succ, List.getElem_toArray, List.getElem_cons_zero, List.getElem_cons_succ]
      refine wpAnyH_take (i := 4) (v := ?_) rfl (by kernel_rfl) (by kernel_rfl) (by kernel_rfl) (fun _ _ _ h => h) (Or.inl ⟨by rfl, ?_⟩) (by assumption) ?_
      rotate_left
      · intro w hSw
        (try dsimp only at hSw)
        go_simp
        try with_reducible rfl
      try simp only [Act.put, List.setIfInBounds_toArray, List.set_cons_zero, List.set_cons_succ, List.getElem_toArray, List.getElem_cons_zero, List.getElem_cons_succ]
      refine wpAnyH_take (i := 8) (v := ?_) rfl (by kernel_rfl) (by kernel_rfl) (by kernel_rfl) (fun _ _ _ h => h) (Or.inl ⟨by rfl, ?_⟩) (by assumption) ?_
      rotate_left
      · intro w hSw
        (try dsimp only at hSw)
        go_simp
        try with_reducible rfl
      try simp only [Act.put, List.setIfInBounds_toArray, List.set_cons_zero, List.set_cons_succ, List.getElem_toArray, List.getElem_cons_zero, List.getElem_cons_succ]
      refine wpAnyH_ready (rs := [5]) (by kernel_rfl) (by simp) ?_
      refine AllReadyH.cons rfl (fun K hK => ?_) AllReadyH.nil
      rw [if_pos (by rfl)]
      refine wp_mk _ _ _ rfl _ _ _ rfl rfl _ (make_i n (by have := HNB.out; omega) _) ?_
      obtain ⟨wb, hwb⟩ : ∃ wb, wa.alloc (.cells ((zerosI n).map (.int .i64)).toArray 3) = wb := ⟨_, rfl⟩
      obtain ⟨q7, hq7⟩ : ∃ q, wa.heap.size = q := ⟨_, rfl⟩
      have hbn : Below wa.heap.size wa wb := hwb ▸ below_new wa _
      have HQb : Hid (Bk wb q7 3 ((zerosI n).map (.int .i64))) := by show Bk _ _ _ _; rw [← hwb]; exact Bk.at_ wa _ _ hq7 rfl
      rw [hwb, hq7]
      clear hwb hq7
      have HTb := Lib.hid (HTa.out.later hbn); have HFb := Lib.hid (HFa.out.later hbn)
      clear hbn HTa HFa
      refine hK.out _ _ HTb.out.lk (fun hHeld => ?_)
      clear hK K
      try simp only [Act.put, List.setIfInBounds_toArray, List.set_cons_zero, List.set_cons_succ, List.getElem_toArray, List.getElem_cons_zero, List.getElem_cons_succ]
      have HEL : Hid (([] : List Ent).length + n ≤ 65536) := by show 0 + n ≤ _; have := HNB.out; omega
      have HOC := Lib.hid (outcome_any wb w.heap.size g [] HTb.out.bk LF HFH.out HKO.out A' n C' (by have := HNB.out; omega) HEL.out (zerosI n) (zerosI_ok n) (some ⟨q7, 0, none⟩) n n (by have := HNB.out; omega) ⟨own_base HTb.out.k (Nat.zero_le _), HQb.out.own (Nat.zero_le _) (Nat.le_refl _) (by have := HNB.out; omega) (by simp [zerosI_len]) (by rw [List.take_of_length_le (by simp [zerosI_len])])⟩ HTb.out.hb.size n)
      refine wpAnyH_ready (rs := [9]) (by kernel_rfl) (by simp) ?_
      refine AllReadyH.cons rfl (fun K hK => ?_) AllReadyH.nil
      go_simp
      (go_at_call 14; refine HOC.out.mono ?_; rintro e wc ⟨⟨E, F, ps, rfl, h1, h2, h3⟩, hbk, hb, hk, hrw⟩; have HTc := Lib.hid (HTb.out.sign hk hb hbk); have HFc := Lib.hid (HFb.out.keeps hk (by decide) (by decide)); have HR1 := Lib.hid h1; have HR2 := Lib.hid h2; have HR3 := Lib.hid h3; have HRW := Lib.hid hrw; clear h1 h2 h3 hbk hb hk hrw HTb HFb HQb HOC)
      refine hK.out _ _ (HTc.out.lk) (fun hHeld => ?_)
      clear hK K
      try simp only [Act.put, List.setIfInBounds_toArray, List.set_cons_zero, List.set_cons_succ, List.getElem_toArray, List.getElem_cons_zero, List.getElem_cons_succ]
      refine wpAnyH_ready (rs := [10]) (by kernel_rfl) (by simp) ?_
      refine AllReadyH.cons rfl (fun K hK => ?_) AllReadyH.nil
      rw [if_pos (by rfl)]
      refine wp_store_part _ _ _ rfl gp 0 _ (pfC zeroD (.slice (some ⟨q7, 0, none⟩) n n) (.slice E n F)) rfl rfl rfl _ ([]) (zPf) ([]) (by simpa using HFc.out) rfl rfl (pf_sz zero_ok _ _) (pf_one _ _ _ _ _ _ _) ?_
      intro wd hp
      refine hK.out _ _ (HTc.out.lk.grown hp.only (fun e => by injection e with e; subst e; exact HTc.out.lk.ne_ HFc.out (by decide) rfl)) (fun hHeld => ?_)
      clear hK K
      try simp only [Act.put, List.setIfInBounds_toArray, List.set_cons_zero, List.set_cons_succ, List.getElem_toArray, List.getElem_cons_zero, List.getElem_cons_succ]
      refine wpAnyH_done (by kernel_rfl) ?_ _
      clear hHeld
      have HFd : Hid (Bk wd gp 39 (pfC zeroD (.slice (some ⟨q7, 0, none⟩) n n) (.slice E n F))) := by show Bk _ _ _ _; have := hp.bk; simpa using this
      have HTd : Hid (TO w wd g (sgO [] (msgO LF.h (zerosI n)) n LF.ks n).2 z LF A' n C') := ⟨HTc.out.lk.grown hp.only (fun e => by injection e with e; subst e; exact HTc.out.lk.ne_ HFc.out (by decide) rfl), own_only HTc.out.k hp.only (own_bk_ne HTc.out.k HFc.out (by decide)), HTc.out.bk.put hp HFc.out (by decide) (by decide), below_only HTc.out.hb hp.only HTc.out.hb.size HGP.out⟩
      have HPR := Lib.hid (out_pr (own_only HR1.out hp.only (own_bk_ne HR1.out HFc.out (by decide))) (fun q hq => own_only (HR2.out q hq) hp.only (own_bk_ne (HR2.out q hq) HFc.out (by decide))) HR3.out HEL.out (own_only HRW.out.z hp.only (own_bk_ne HRW.out.z HFc.out (by decide))) (zerosI_bd n) (by have := HNB.out; omega))
      have HAL : Hid (allB (sgO [] (msgO LF.h (zerosI n)) n LF.ks n).2 (msgO LF.h (zerosI n)) LF.ks ps [] = true) := by
        show _ = _
        have h4 := HKL.out
        have h5 := sgO_all (es := []) (m := msgO LF.h (zerosI n)) (many := n) (ks := LF.ks) (ps := ps) (by rw [h4]; exact Nat.lt_of_lt_of_le (by decide) HN2.out) (by rw [h4]; exact HR3.out)
        rw [h4] at h5
        rw [h5]; simp
      have HOP : Hid (OP wd w.heap.size g (sgO [] (msgO LF.h (zerosI n)) n LF.ks n).2 gp n (some ⟨q7, 0, none⟩) n n E n F (zerosI n) ps) := ⟨HFd.out, HTd.out.bk, HPR.out, fun _ => rfl, by have h1 := (sgO_len [] (msgO LF.h (zerosI n)) n LF.ks n).2; have h2 := HEL.out; exact Nat.le_trans h1 h2⟩
      clear hp HTc HFc HR1 HR2 HR3 HRW HPR HFd
      go_wp2_with fail
      go_meet
      exact ⟨rfl, _, LF, _, _, _, _, _, _, _, _, ⟨HTd.out, HOP.out, HFH.out, HKO.out, HNB.out.1, HCZ.out, HNB.out.2.1, fun now => openO_all HCZ.out HKN.out rfl HAL.out now⟩, rfl, rfl⟩
  obtain ⟨rfl, es, LX, B, E, m, D, q, G, zs, ps, HI7, HLX⟩ := hcut
  obtain ⟨w7, hw7⟩ : ∃ w4, w4 = wc := ⟨_, rfl⟩
  subst hw7
  clear HT6 HF6 HF1 HCZ HKO HKL HSL
  refine ‹∀ (a : Act) (w : World), Code.wp _ _ _ a w → _› _ _ ?_
  have hm1 := modI_run i1 2200 (by decide) (by decide)
  obtain ⟨tm, htm⟩ : ∃ y, modI i1 2200 = y := ⟨_, rfl⟩
  rw [htm] at hm1
  have HSL := Lib.hid (lk_sz HI7.out.h (.slice A' n C'))
  clear htm
  go_wp2_with (first
    | (with_reducible refine wpList_load_bk rfl 26 _ rfl z rfl (lkC LX (.slice A' n C')) 26 HI7.out.t.lk _ Try.underlying26 rfl HSL.out ?_)
    | (with_reducible refine wpList_load_bk rfl 39 _ rfl gp rfl (pfC zeroD (.slice B m D) (.slice E q G)) 39 HI7.out.o.pf _ Try.underlying39 rfl (pf_sz zero_ok _ _) ?_))
  clear hm1
  have hop := HI7.out.o.open_ (C := C') HI7.out.kk tm
  rw [HI7.out.op] at hop
  by_cases hat : LX.u < tm
  · rw [if_pos hat] at hop
    refine hop.mono ?_
    rintro e w8 ⟨rfl, hbn⟩
    have HI8 := Lib.hid (HI7.out.later hbn)
    clear hbn hop
    go_wp2_with (with_reducible refine wpList_load_bk rfl 26 _ rfl z rfl (lkC LX (.slice A' n C')) 26 HI8.out.t.lk _ Try.underlying26 rfl HSL.out ?_)
    have hbk := back_any w8 LX HI8.out.h A' n C' tm
    rw [show backE LX n tm = 0 by rw [backE, if_pos HI8.out.ck, if_neg (by omega)]] at hbk
    refine hbk.mono ?_
    rintro e w9 ⟨rfl, hbn⟩
    have HI9 := Lib.hid (HI8.out.later hbn)
    clear hbn hbk HI7 HI8
    go_wp2_with (first
      | (with_reducible refine wpList_load_bk rfl 26 _ rfl z rfl (lkC LX (.slice A' n C')) 26 HI9.out.t.lk _ Try.underlying26 rfl HSL.out ?_)
      | (with_reducible refine stop_store 26 _ _ rfl ?_))
    refine StopD.go ?_
    obtain ⟨gb, hgb⟩ : ∃ q, w9.heap.size = q := ⟨_, rfl⟩
    obtain ⟨wa, hwa⟩ : ∃ w', w9.alloc (.cells #[.int .i64 0, .int .u8 0, .int .u8 0, .int .u8 0, .int .u8 0, .int .u8 0, .int .u8 0, .int .u8 0, .int .u8 0, .slice none 0 0, .int .i64 0, .int .i64 0, .int .i64 0] 26) = w' := ⟨_, rfl⟩
    have hbn : Below w9.heap.size w9 wa := hwa ▸ below_new w9 _
    have kt : Bk wa gb 26 ([] ++ (zLk' ++ [])) := by rw [← hwa]; exact Bk.at_ w9 _ _ hgb rfl
    rw [hgb, hwa]
    refine wpList_store_part rfl 26 _ _ rfl gb 0 (.agg (lkC LX (.slice A' n C')).toArray) (lkC LX (.slice A' n C')) rfl rfl rfl 26 [] zLk' [] kt rfl (by rw [lkC_len HI9.out.h]; rfl) (lk_sz HI9.out.h _) (lk_one _ _ _ _) ?_
    intro wb hp
    have HNb : Hid (Below w9.heap.size w9 wb) := hbn.grown hp.only hbn.size (fun q' hq' => by injection hq' with hq'; omega)
    have HGb : Hid (Bk wb gb 26 (lkC LX (.slice A' n C'))) := by show Bk _ _ _ _; have := hp.bk; simpa using this
    have HQB : Hid (w9.heap.size ≤ gb) := Nat.le_of_eq hgb
    clear hp hbn kt hgb hwa
    have hm3 := modI_run i2 3 (by decide) (by decide)
    have HY3 : Hid (0 ≤ modI i2 3 ∧ modI i2 3 < 3) := modI_lt i2 (n := 3) (by decide)
    obtain ⟨y, hy⟩ : ∃ y, modI i2 3 = y := ⟨_, rfl⟩
    rw [hy] at hm3 HY3
    clear hy
    have hwn : IntKind.i64.wrap (-y) = -y := by clear hm3; rw [IntWalk.i64_in]; have := HY3.out; omega
    have hwn2 : wrap64 (-y) = -y := by clear hm3; exact IntWalk.wrap64_in _ (by have := HY3.out; omega)
    go_wp2_with (with_reducible refine stop_store 3 _ _ rfl ?_)
    clear hm3 hwn hwn2
    refine StopD.go ?_
    refine wpList_store_part rfl 3 _ _ rfl gb 11 (.int .i64 (-y)) [.int .i64 (-y)] rfl rfl rfl 26 (.int .i64 LX.k :: dl LX.h ++ [.slice A' n C', .int .i64 LX.s]) [.int .i64 LX.c] [.int .i64 LX.u] (by have := HGb.out; simpa [lkC] using this) (by simp [dl_len, HI9.out.h.len]) rfl (by kernel_rfl) (by intro x hx; simp at hx; subst hx; rfl) ?_
    intro wc hp
    obtain ⟨LB, hLB⟩ : ∃ x, (⟨LX.k, LX.h, LX.ks, LX.s, -y, LX.u⟩ : LkT) = x := ⟨_, rfl⟩
    have HGc : Hid (Bk wc gb 26 (lkC LB (.slice A' n C'))) := by show Bk _ _ _ _; rw [← hLB]; have := hp.bk; simpa [lkC] using this
    have HNc : Hid (Below w9.heap.size w9 wc) := below_only HNb.out hp.only HNb.out.size HQB.out
    have HIc := Lib.hid (HI9.out.later HNc.out)
    have HBH : Hid (DgOk LB.h) := by show DgOk _; rw [← hLB]; exact HIc.out.h
    have HBC : Hid (checkL LB.k LB.s LB.c LB.u n = 2) := by
      show _ = _
      rw [← hLB]
      obtain ⟨_, _, _, _, e5⟩ := checkL_zero HIc.out.ck
      have := HY3.out
      unfold checkL
      rw [if_neg (by rcases e5 with e | e <;> simp [e.1]), if_pos (by left; show -y < 1; omega)]
    have HBK : Hid (LkK wc LB A' n) := by show LkK _ _ _ _; rw [← hLB]; exact ⟨HIc.out.kk.k, HIc.out.kk.ko, HIc.out.kk.h, HIc.out.kk.n⟩
    have HSB := Lib.hid (lk_sz HBH.out (.slice A' n C'))
    clear hp hLB HNb HGb HI9 HNc HY3
    go_wp2_with (first
      | (with_reducible refine wpList_load_bk rfl 26 _ rfl gb rfl (lkC LB (.slice A' n C')) 26 HGc.out _ Try.underlying26 rfl HSB.out ?_)
      | (with_reducible refine wpList_load_bk rfl 39 _ rfl gp rfl (pfC zeroD (.slice B m D) (.slice E q G)) 39 HIc.out.o.pf _ Try.underlying39 rfl (pf_sz zero_ok _ _) ?_))
    have hop := HIc.out.o.open_ (C := C') HBK.out tm
    rw [openO_bad HBC.out (by decide)] at hop
    refine hop.mono ?_
    rintro e wd ⟨rfl, hbn⟩
    have HId := Lib.hid (HIc.out.later hbn); have HGd := Lib.hid (HGc.out.later hbn)
    clear hbn hop HIc HGc HBK
    go_wp2_with (with_reducible refine wpList_load_bk rfl 26 _ rfl gb rfl (lkC LB (.slice A' n C')) 26 HGd.out _ Try.underlying26 rfl HSB.out ?_)
    have hnx := next_bad wd LB HBH.out A' n C' 1 (by rw [HBC.out]; decide)
    rw [HBC.out] at hnx
    refine hnx.mono ?_
    rintro e we ⟨rfl, hbn⟩
    have HIe := Lib.hid (HId.out.later hbn); have HGe := Lib.hid (HGd.out.later hbn)
    clear hbn hnx HId HGd
    go_wp2_with (with_reducible refine stop_store 26 _ _ rfl ?_)
    refine StopD.go ?_
    obtain ⟨gc, hgc⟩ : ∃ q, we.heap.size = q := ⟨_, rfl⟩
    obtain ⟨wf, hwf⟩ : ∃ w', we.alloc (.cells #[.int .i64 0, .int .u8 0, .int .u8 0, .int .u8 0, .int .u8 0, .int .u8 0, .int .u8 0, .int .u8 0, .int .u8 0, .slice none 0 0, .int .i64 0, .int .i64 0, .int .i64 0] 26) = w' := ⟨_, rfl⟩
    have hbn : Below we.heap.size we wf := hwf ▸ below_new we _
    have kt : Bk wf gc 26 ([] ++ (zLk' ++ [])) := by rw [← hwf]; exact Bk.at_ we _ _ hgc rfl
    rw [hgc, hwf]
    refine wpList_store_part rfl 26 _ _ rfl gc 0 (.agg zLk'.toArray) zLk' rfl rfl rfl 26 [] zLk' [] kt rfl rfl zlk_size zlk_one ?_
    intro wg hp
    have hbn : Below we.heap.size we wg := hbn.grown hp.only hbn.size (fun q' hq' => by injection hq' with hq'; omega)
    have HIg := Lib.hid (HIe.out.later hbn); have HGg := Lib.hid (HGe.out.later hbn)
    clear hp hbn kt hgc hwf HIe HGe
    go_wp2_with ((with_reducible refine wpList_load_bkG ?_ 26 _ rfl gb rfl (lkC LB (.slice A' n C')) 26 HGg.out _ Try.underlying26 rfl HSB.out ?_); rfl)
    have hbk := back_any wg LB HBH.out A' n C' tm
    rw [show backE LB n tm = 2 by rw [backE, HBC.out, if_neg (by decide)]] at hbk
    refine hbk.mono ?_
    rintro e wh ⟨rfl, hbn⟩
    have HIh := Lib.hid (HIg.out.later hbn); have HGh := Lib.hid (HGg.out.later hbn)
    clear hbn hbk HIg HGg
    go_wp2_with (first
      | ((with_reducible refine wpList_load_bkG ?_ 26 _ rfl gb rfl (lkC LB (.slice A' n C')) 26 HGh.out _ Try.underlying26 rfl HSB.out ?_); rfl)
      | ((with_reducible refine wpList_load_bkG ?_ 26 _ rfl z rfl (lkC LX (.slice A' n C')) 26 HIh.out.t.lk _ Try.underlying26 rfl HSL.out ?_); rfl))
    have hft := fits_bad1 wh LB LX HBH.out HIh.out.h A' A' n C' n C' 1 (by rw [HBC.out]; decide)
    rw [HBC.out] at hft
    refine hft.mono ?_
    rintro e wi ⟨rfl, hbn⟩
    have HIi := Lib.hid (HIh.out.later hbn); have HGi := Lib.hid (HGh.out.later hbn)
    clear hbn hft HIh HGh
    go_wp2_with (first
      | ((with_reducible refine wpList_load_bkG ?_ 26 _ rfl gb rfl (lkC LB (.slice A' n C')) 26 HGi.out _ Try.underlying26 rfl HSB.out ?_); rfl)
      | ((with_reducible refine wpList_load_bkG ?_ 26 _ rfl z rfl (lkC LX (.slice A' n C')) 26 HIi.out.t.lk _ Try.underlying26 rfl HSL.out ?_); rfl))
    have hft := fits_bad2 wi LX LB HIi.out.h HBH.out A' A' n C' n C' 1 HIi.out.ck (by rw [HBC.out]; decide)
    rw [HBC.out] at hft
    refine hft.mono ?_
    rintro e wj ⟨rfl, hbn⟩
    have HIj := Lib.hid (HIi.out.later hbn)
    clear hbn hft HIi HGi
    go_wp2_with fail
    go_ret
    exact ⟨rfl, HIj.out.t.hb⟩
  · rw [if_neg hat] at hop
    refine hop.mono ?_
    rintro e w8 ⟨rfl, hbn⟩
    have HI8 := Lib.hid (HI7.out.later hbn)
    clear hbn hop
    go_wp2_with (with_reducible refine wpList_load_bk rfl 26 _ rfl z rfl (lkC LX (.slice A' n C')) 26 HI8.out.t.lk _ Try.underlying26 rfl HSL.out ?_)
    have hbk := back_any w8 LX HI8.out.h A' n C' tm
    rw [show backE LX n tm = 20 by rw [backE, if_pos HI8.out.ck, if_pos (by omega)]] at hbk
    refine hbk.mono ?_
    rintro e w9 ⟨rfl, hbn⟩
    have HI9 := Lib.hid (HI8.out.later hbn)
    clear hbn hbk HI7 HI8
    go_wp2_with (first
      | (with_reducible refine wpList_load_bk rfl 26 _ rfl z rfl (lkC LX (.slice A' n C')) 26 HI9.out.t.lk _ Try.underlying26 rfl HSL.out ?_)
      | (with_reducible refine stop_store 26 _ _ rfl ?_))
    refine StopD.go ?_
    obtain ⟨gb, hgb⟩ : ∃ q, w9.heap.size = q := ⟨_, rfl⟩
    obtain ⟨wa, hwa⟩ : ∃ w', w9.alloc (.cells #[.int .i64 0, .int .u8 0, .int .u8 0, .int .u8 0, .int .u8 0, .int .u8 0, .int .u8 0, .int .u8 0, .int .u8 0, .slice none 0 0, .int .i64 0, .int .i64 0, .int .i64 0] 26) = w' := ⟨_, rfl⟩
    have hbn : Below w9.heap.size w9 wa := hwa ▸ below_new w9 _
    have kt : Bk wa gb 26 ([] ++ (zLk' ++ [])) := by rw [← hwa]; exact Bk.at_ w9 _ _ hgb rfl
    rw [hgb, hwa]
    refine wpList_store_part rfl 26 _ _ rfl gb 0 (.agg (lkC LX (.slice A' n C')).toArray) (lkC LX (.slice A' n C')) rfl rfl rfl 26 [] zLk' [] kt rfl (by rw [lkC_len HI9.out.h]; rfl) (lk_sz HI9.out.h _) (lk_one _ _ _ _) ?_
    intro wb hp
    have HNb : Hid (Below w9.heap.size w9 wb) := hbn.grown hp.only hbn.size (fun q' hq' => by injection hq' with hq'; omega)
    have HGb : Hid (Bk wb gb 26 (lkC LX (.slice A' n C'))) := by show Bk _ _ _ _; have := hp.bk; simpa using this
    have HQB : Hid (w9.heap.size ≤ gb) := Nat.le_of_eq hgb
    clear hp hbn kt hgb hwa
    have hm3 := modI_run i2 3 (by decide) (by decide)
    have HY3 : Hid (0 ≤ modI i2 3 ∧ modI i2 3 < 3) := modI_lt i2 (n := 3) (by decide)
    obtain ⟨y, hy⟩ : ∃ y, modI i2 3 = y := ⟨_, rfl⟩
    rw [hy] at hm3 HY3
    clear hy
    have hwn : IntKind.i64.wrap (-y) = -y := by clear hm3; rw [IntWalk.i64_in]; have := HY3.out; omega
    have hwn2 : wrap64 (-y) = -y := by clear hm3; exact IntWalk.wrap64_in _ (by have := HY3.out; omega)
    go_wp2_with (with_reducible refine stop_store 3 _ _ rfl ?_)
    clear hm3 hwn hwn2
    refine StopD.go ?_
    refine wpList_store_part rfl 3 _ _ rfl gb 11 (.int .i64 (-y)) [.int .i64 (-y)] rfl rfl rfl 26 (.int .i64 LX.k :: dl LX.h ++ [.slice A' n C', .int .i64 LX.s]) [.int .i64 LX.c] [.int .i64 LX.u] (by have := HGb.out; simpa [lkC] using this) (by simp [dl_len, HI9.out.h.len]) rfl (by kernel_rfl) (by intro x hx; simp at hx; subst hx; rfl) ?_
    intro wc hp
    obtain ⟨LB, hLB⟩ : ∃ x, (⟨LX.k, LX.h, LX.ks, LX.s, -y, LX.u⟩ : LkT) = x := ⟨_, rfl⟩
    have HGc : Hid (Bk wc gb 26 (lkC LB (.slice A' n C'))) := by show Bk _ _ _ _; rw [← hLB]; have := hp.bk; simpa [lkC] using this
    have HNc : Hid (Below w9.heap.size w9 wc) := below_only HNb.out hp.only HNb.out.size HQB.out
    have HIc := Lib.hid (HI9.out.later HNc.out)
    have HBH : Hid (DgOk LB.h) := by show DgOk _; rw [← hLB]; exact HIc.out.h
    have HBC : Hid (checkL LB.k LB.s LB.c LB.u n = 2) := by
      show _ = _
      rw [← hLB]
      obtain ⟨_, _, _, _, e5⟩ := checkL_zero HIc.out.ck
      have := HY3.out
      unfold checkL
      rw [if_neg (by rcases e5 with e | e <;> simp [e.1]), if_pos (by left; show -y < 1; omega)]
    have HBK : Hid (LkK wc LB A' n) := by show LkK _ _ _ _; rw [← hLB]; exact ⟨HIc.out.kk.k, HIc.out.kk.ko, HIc.out.kk.h, HIc.out.kk.n⟩
    have HSB := Lib.hid (lk_sz HBH.out (.slice A' n C'))
    clear hp hLB HNb HGb HI9 HNc HY3
    go_wp2_with (first
      | (with_reducible refine wpList_load_bk rfl 26 _ rfl gb rfl (lkC LB (.slice A' n C')) 26 HGc.out _ Try.underlying26 rfl HSB.out ?_)
      | (with_reducible refine wpList_load_bk rfl 39 _ rfl gp rfl (pfC zeroD (.slice B m D) (.slice E q G)) 39 HIc.out.o.pf _ Try.underlying39 rfl (pf_sz zero_ok _ _) ?_))
    have hop := HIc.out.o.open_ (C := C') HBK.out tm
    rw [openO_bad HBC.out (by decide)] at hop
    refine hop.mono ?_
    rintro e wd ⟨rfl, hbn⟩
    have HId := Lib.hid (HIc.out.later hbn); have HGd := Lib.hid (HGc.out.later hbn)
    clear hbn hop HIc HGc HBK
    go_wp2_with (with_reducible refine wpList_load_bk rfl 26 _ rfl gb rfl (lkC LB (.slice A' n C')) 26 HGd.out _ Try.underlying26 rfl HSB.out ?_)
    have hnx := next_bad wd LB HBH.out A' n C' 1 (by rw [HBC.out]; decide)
    rw [HBC.out] at hnx
    refine hnx.mono ?_
    rintro e we ⟨rfl, hbn⟩
    have HIe := Lib.hid (HId.out.later hbn); have HGe := Lib.hid (HGd.out.later hbn)
    clear hbn hnx HId HGd
    go_wp2_with (with_reducible refine stop_store 26 _ _ rfl ?_)
    refine StopD.go ?_
    obtain ⟨gc, hgc⟩ : ∃ q, we.heap.size = q := ⟨_, rfl⟩
    obtain ⟨wf, hwf⟩ : ∃ w', we.alloc (.cells #[.int .i64 0, .int .u8 0, .int .u8 0, .int .u8 0, .int .u8 0, .int .u8 0, .int .u8 0, .int .u8 0, .int .u8 0, .slice none 0 0, .int .i64 0, .int .i64 0, .int .i64 0] 26) = w' := ⟨_, rfl⟩
    have hbn : Below we.heap.size we wf := hwf ▸ below_new we _
    have kt : Bk wf gc 26 ([] ++ (zLk' ++ [])) := by rw [← hwf]; exact Bk.at_ we _ _ hgc rfl
    rw [hgc, hwf]
    refine wpList_store_part rfl 26 _ _ rfl gc 0 (.agg zLk'.toArray) zLk' rfl rfl rfl 26 [] zLk' [] kt rfl rfl zlk_size zlk_one ?_
    intro wg hp
    have hbn : Below we.heap.size we wg := hbn.grown hp.only hbn.size (fun q' hq' => by injection hq' with hq'; omega)
    have HIg := Lib.hid (HIe.out.later hbn); have HGg := Lib.hid (HGe.out.later hbn)
    clear hp hbn kt hgc hwf HIe HGe
    go_wp2_with ((with_reducible refine wpList_load_bkG ?_ 26 _ rfl gb rfl (lkC LB (.slice A' n C')) 26 HGg.out _ Try.underlying26 rfl HSB.out ?_); rfl)
    have hbk := back_any wg LB HBH.out A' n C' tm
    rw [show backE LB n tm = 2 by rw [backE, HBC.out, if_neg (by decide)]] at hbk
    refine hbk.mono ?_
    rintro e wh ⟨rfl, hbn⟩
    have HIh := Lib.hid (HIg.out.later hbn); have HGh := Lib.hid (HGg.out.later hbn)
    clear hbn hbk HIg HGg
    go_wp2_with (first
      | ((with_reducible refine wpList_load_bkG ?_ 26 _ rfl gb rfl (lkC LB (.slice A' n C')) 26 HGh.out _ Try.underlying26 rfl HSB.out ?_); rfl)
      | ((with_reducible refine wpList_load_bkG ?_ 26 _ rfl z rfl (lkC LX (.slice A' n C')) 26 HIh.out.t.lk _ Try.underlying26 rfl HSL.out ?_); rfl))
    have hft := fits_bad1 wh LB LX HBH.out HIh.out.h A' A' n C' n C' 1 (by rw [HBC.out]; decide)
    rw [HBC.out] at hft
    refine hft.mono ?_
    rintro e wi ⟨rfl, hbn⟩
    have HIi := Lib.hid (HIh.out.later hbn); have HGi := Lib.hid (HGh.out.later hbn)
    clear hbn hft HIh HGh
    go_wp2_with (first
      | ((with_reducible refine wpList_load_bkG ?_ 26 _ rfl gb rfl (lkC LB (.slice A' n C')) 26 HGi.out _ Try.underlying26 rfl HSB.out ?_); rfl)
      | ((with_reducible refine wpList_load_bkG ?_ 26 _ rfl z rfl (lkC LX (.slice A' n C')) 26 HIi.out.t.lk _ Try.underlying26 rfl HSL.out ?_); rfl))
    have hft := fits_bad2 wi LX LB HIi.out.h HBH.out A' A' n C' n C' 1 HIi.out.ck (by rw [HBC.out]; decide)
    rw [HBC.out] at hft
    refine hft.mono ?_
    rintro e wj ⟨rfl, hbn⟩
    have HIj := Lib.hid (HIi.out.later hbn)
    clear hbn hft HIi HGi
    go_wp2_with fail
    go_ret
    exact ⟨rfl, HIj.out.t.hb⟩
end Go.Proofs.Ytbclfjdamklbpaa
