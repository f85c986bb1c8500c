/- A payout that so many keys have signed: the walk. -/
import Derived.Test.YtbclfjdamklbpaaL6
namespace Go.Proofs.Ytbclfjdamklbpaa
set_option linter.unusedSimpArgs false
set_option linter.unusedVariables false
open Go.RowKit Go.Maps

def RetOC (w : World) (lo g : Nat) (es : List Ent) (L : LkT) (A : Option Addr) (N C : Nat) (zs : List Int) (B : Option Addr) (M D : Nat) (many : Int) (e : Ending) (w' : World) : Prop :=
  (∃ (E : Option Addr) (F : Nat) (ps : List Pc), e = .returned (.agg (pfC zeroD (.slice B M D) (.slice E N F)).toArray) ∧ w'.ownsRow 0 56 1 (.slice E N F) N (ps.map Pc.v) ∧ PcsOwn w' 0 ps ∧ ps.map Pc.bs = (sgO es (msgO L.h zs) many L.ks N).1) ∧
  BookAt w' lo g (sgO es (msgO L.h zs) many L.ks N).2 ∧ Below lo w w' ∧ Keeps w w' ∧ Rw w' L.ks A N C zs B M D
theorem out_ret {w : World} {g : Nat} {cs : List Value} (h : Bk w g 39 cs) (hi : (Try.prog.info? 39).map (·.size) = some cs.length) (tmps : Array Value) (h4 : tmps.getD 8 undef = .pointer (some ⟨g, 0, none⟩)) :
    (results Try.f14 tmps).run Try.prog w = .ok (.agg cs.toArray) w := by
  have r1 : w.rangeAt g 0 cs := Bk.range (pre := []) (post := []) (by simpa using h) rfl
  have l1 := run_loadVar_mid (P := Try.prog) w g 0 39 cs _ r1 Try.underlying39 rfl hi
  rw [Array.getD_eq_getD_getElem?] at h4
  simp [results, Try.results14, h4, asAddr, l1]
set_option maxRecDepth 20000 in
set_option maxHeartbeats 8000000 in
theorem outcome_any (w : World) (lo g : Nat) (es : List Ent) (hbk : BookAt w lo g es) (L : LkT) (hh : DgOk L.h) (hko : DsOk L.ks) (A : Option Addr) (N C : Nat) (hN : N ≤ 1000) (hel : es.length + N ≤ 65536) (zs : List Int) (hzo : I64Ok zs) (B : Option Addr) (M D : Nat) (hM : M ≤ 1000) (hrw : Rw w L.ks A N C zs B M D) (hlo : lo ≤ w.heap.size) (many : Int) :
    Calls Try.prog 14 #[.pointer (some ⟨g, 0, none⟩), .agg (lkC L (.slice A N C)).toArray, .slice B M D, .int .i64 many] w (RetOC w lo g es L A N C zs B M D many) := by
  obtain ⟨L0, hL0⟩ : ∃ x, L = x := ⟨_, rfl⟩
  rw [hL0] at hh hko hrw ⊢
  clear hL0 L
  have hkl : L0.ks.length = N := (Sl.of_own hrw.k).dgs hko
  obtain ⟨l, hl⟩ : ∃ x, lkC L0 (.slice A N C) = x := ⟨_, rfl⟩
  obtain ⟨X, hX⟩ : ∃ X, l.toArray = X := ⟨_, rfl⟩
  obtain ⟨z, hz⟩ : ∃ z, w.heap.size = z := ⟨_, rfl⟩
  obtain ⟨w1, hw1⟩ : ∃ w1, (w.alloc (.cells X 26)).alloc (.cells #[.int .u8 0, .int .u8 0, .int .u8 0, .int .u8 0, .int .u8 0, .int .u8 0, .int .u8 0, .int .u8 0, .slice none 0 0, .slice none 0 0] 39) = w1 := ⟨_, rfl⟩
  have hb1 : Below w.heap.size w w1 := hw1 ▸ (below_new w _).alloc (by simp) _
  have kx : Bk w1 z 26 l := hw1 ▸ (Bk.at_ w _ X hz (by rw [← hX])).alloc _
  have kr : Bk w1 (z + 1) 39 zPf := hw1 ▸ Bk.at_ _ _ _ (by simp [hz]) rfl
  have HLM : Hid (∀ w' g', Bk w' g' 26 l → LkM w' g' L0 (.slice A N C)) := fun w' g' h' => by rw [← hl] at h'; exact lk_mem hh h'
  have HW := Lib.hid hw1; have HBB1 := Lib.hid hb1; have HX1 := Lib.hid kx; have HR1 := Lib.hid kr; have HHO := Lib.hid hh; have HKO := Lib.hid hko; have HKL := Lib.hid hkl; have HZ := Lib.hid hz
  have HRW1 := Lib.hid (hrw.later hb1); have HBK1 := Lib.hid (hbk.later hb1); have HLO := Lib.hid hlo; have HEL := Lib.hid hel
  have HLH := Lib.hid (hdg_size _ hh)
  have hbp := build_py L0.h hh B M D
  rw [hl, hX]
  clear hl hX hw1 hb1 kx kr hh hko hkl hrw hbk hlo hz hel
  go_enter Try.func14, Try.ntmps14
  go_upto_region 1 with fail
  rw [HW.out, HZ.out]
  go_wp2_with (first
    | (with_reducible refine wpList_load_mid rfl 23 _ rfl z 1 rfl (dl L0.h) _ (HLM.out _ _ HX1.out).r1 Try.underlying23 rfl HLH.out ?_)
    | ((with_reducible refine wpList_build rfl 90 _ rfl #[(0, .agg (dl L0.h).toArray), (1, .slice B M D)] ?_ _ (hbp _) ?_); focus (simp [Act.eval, Act.put]; done)))
  clear hbp
  refine (pdigest_any w1 L0.h HHO.out B M D zs (Sl.of_own HRW1.out.z) hzo (by omega)).mono ?_
  rintro e w2 ⟨rfl, hbn⟩
  have HX2 := Lib.hid (HX1.out.later hbn); have HR2 := Lib.hid (HR1.out.later hbn); have HRW2 := Lib.hid (HRW1.out.later hbn); have HBK2 := Lib.hid (HBK1.out.later hbn); have HBB2 := Lib.hid (below_then HBB1.out hbn)
  clear hbn HX1 HR1 HRW1 HBK1
  have HMO : Hid (DgOk (msgO L0.h zs)) := ofI_ok _
  rw [show ofI (pyB L0.h zs) = msgO L0.h zs from rfl]
  obtain ⟨m, hm⟩ : ∃ m, msgO L0.h zs = m := ⟨_, rfl⟩
  rw [hm] at HMO ⊢
  have HME := Lib.hid hm
  clear hm
  go_wp2_with (with_reducible refine stop_store 23 _ _ rfl ?_)
  refine StopD.go ?_
  obtain ⟨gm, hgm⟩ : ∃ q, w2.heap.size = q := ⟨_, rfl⟩
  obtain ⟨w3, hw3⟩ : ∃ w3, w2.alloc (.cells #[.int .u8 0, .int .u8 0, .int .u8 0, .int .u8 0, .int .u8 0, .int .u8 0, .int .u8 0, .int .u8 0] 23) = w3 := ⟨_, rfl⟩
  have hbn : Below w2.heap.size w2 w3 := hw3 ▸ below_new w2 _
  have kt : Bk w3 gm 23 ([] ++ (dl zeroD ++ [])) := by rw [← hw3]; exact Bk.at_ w2 _ _ hgm rfl
  rw [hgm, hw3]
  refine wpList_store_part rfl 23 _ _ rfl gm 0 (.agg (dl m).toArray) (dl m) rfl rfl rfl 23 [] (dl zeroD) [] kt rfl (by rw [dl_len, dl_len, HMO.out.len]; rfl) (hdg_size _ HMO.out) (dl_one' _) ?_
  intro w4 hp
  have hbn : Below w2.heap.size w2 w4 := hbn.grown hp.only hbn.size (fun q' hq' => by injection hq' with hq'; omega)
  have HG4 : Hid (Bk w4 gm 23 (dl m)) := by show Bk _ _ _ _; have := hp.bk; simpa using this
  have HX4 := Lib.hid (HX2.out.later hbn); have HR4 := Lib.hid (HR2.out.later hbn); have HRW4 := Lib.hid (HRW2.out.later hbn); have HBK4 := Lib.hid (HBK2.out.later hbn); have HBB4 := Lib.hid (below_then HBB2.out hbn)
  clear hp hbn kt hgm hw3 HX2 HR2 HRW2 HBK2
  have hbq := build_pf B M D
  go_wp2_with (first
    | ((with_reducible refine wpList_build rfl 39 _ rfl #[(1, .slice B M D)] ?_ _ (hbq _) ?_); focus (simp [Act.eval, Act.put]; done))
    | (with_reducible refine stop_store 39 _ _ rfl ?_))
  clear hbq
  refine StopD.go ?_
  obtain ⟨gp, hgp⟩ : ∃ q, w4.heap.size = q := ⟨_, rfl⟩
  obtain ⟨w5, hw5⟩ : ∃ w3, w4.alloc (.cells #[.int .u8 0, .int .u8 0, .int .u8 0, .int .u8 0, .int .u8 0, .int .u8 0, .int .u8 0, .int .u8 0, .slice none 0 0, .slice none 0 0] 39) = w3 := ⟨_, rfl⟩
  have hbn : Below w4.heap.size w4 w5 := hw5 ▸ below_new w4 _
  have kt : Bk w5 gp 39 ([] ++ (zPf ++ [])) := by rw [← hw5]; exact Bk.at_ w4 _ _ hgp rfl
  rw [hgp, hw5]
  refine wpList_store_part rfl 39 _ _ rfl gp 0 (.agg (pfC zeroD (.slice B M D) (.slice none 0 0)).toArray) (pfC zeroD (.slice B M D) (.slice none 0 0)) rfl rfl rfl 39 [] zPf [] kt rfl rfl (pf_sz zero_ok _ _) (pf_one _ _ _ _ _ _ _) ?_
  intro w6 hp
  have hbn : Below w4.heap.size w4 w6 := hbn.grown hp.only hbn.size (fun q' hq' => by injection hq' with hq'; omega)
  have HP6 : Hid (Bk w6 gp 39 (pfC zeroD (.slice B M D) (.slice none 0 0))) := by show Bk _ _ _ _; have := hp.bk; simpa using this
  have hb6 := below_then HBB4.out hbn
  have HOC : Hid (OC w w6 lo g es z gm gp l m L0.ks A N C zs B M D (.slice none 0 0) []) := ⟨HX4.out.later hbn, HR4.out.later hbn, HG4.out.later hbn, HP6.out, HRW4.out.later hbn, World.ownsRow_nil _ _ _ _, fun p hp => by simp at hp, HBK4.out.later hbn, hb6.mono HLO.out, Keeps.of_below hb6, HLO.out, by rw [← hgp]; exact HBB4.out.size, by have := HR4.out.lt; omega⟩
  clear hp hbn kt hgp hw5 hb6 HX4 HR4 HG4 HP6 HRW4 HBK4 HBB1 HBB2 HBB4 HW
  obtain ⟨sg, hsg⟩ : ∃ f, sgO es m many L0.ks = f := ⟨_, rfl⟩
  have HSG0 : Hid (sg 0 = ([], es)) := by show _ = _; rw [← hsg]; rfl
  have HSGT : Hid (∀ i : Nat, (i : Int) < many → sg (i + 1) = ((sg i).1 ++ [sigB ((sg i).2.idxOf (L0.ks.getD i [], m))], bookS (sg i).2 (L0.ks.getD i [], m))) := fun i hi => by rw [← hsg, sgO, if_pos hi]
  have HSGF : Hid (∀ i : Nat, ¬ (i : Int) < many → sg (i + 1) = ((sg i).1 ++ [[]], (sg i).2)) := fun i hi => by rw [← hsg, sgO, if_neg hi]
  have HSGL : Hid (∀ i, (sg i).2.length ≤ es.length + i) := fun i => by rw [← hsg]; exact (sgO_len _ _ _ _ i).2
  have HSGE : Hid (sgO es (msgO L0.h zs) many L0.ks N = sg N) := by show _ = _; rw [HME.out, hsg]
  clear hsg
  go_wp2_with fail
  go_loopw [11, 12] (fun iv _ wr => ∃ k : Nat, k ≤ N ∧ iv = .int .i64 k ∧ ∃ (sv : Value) (ps : List Pc), Hid (OC w wr lo g (sg k).2 z gm gp l m L0.ks A N C zs B M D sv ps) ∧ Hid (ps.map Pc.bs = (sg k).1 ∧ ps.length = k)) (fun iv _ _ => N - (intOf iv).toNat)
  case atStart => exact ⟨0, Nat.zero_le _, rfl, .slice none 0 0, [], by show OC _ _ _ _ _ _ _ _ _ _ _ _ _ _ _ _ _ _ _ _; rw [HSG0.out]; exact HOC.out, by rw [HSG0.out]; rfl, rfl⟩
  case round =>
    clear HOC
    obtain ⟨k, hk, rfl, sv, ps, HOC, HPS⟩ := hrel
    have c9 := (HLM.out wr _ HOC.out.lk).c9
    by_cases hlt : k < N
    · have hki : (k : Int) < N := by omega
      have hk0 : (0 : Int) ≤ k := by omega
      have HKB : Hid ((k : Int) < N ∧ N ≤ 1000) := ⟨hki, hN⟩
      by_cases hm : (k : Int) < many
      · have hd : decide ((k : Int) < many) = true := by simpa using hm
        have HSK := Lib.hid (HSGT.out k hm)
        clear hm
        go_upto_region 8 with fail
        clear c9 hd
        obtain ⟨x, hx⟩ : ∃ x, L0.ks[k]? = some x := ⟨L0.ks[k]'(by rw [HKL.out]; omega), List.getElem?_eq_getElem _⟩
        have hgd : L0.ks.getD k [] = x := by rw [List.getD_eq_getElem?_getD, hx]; rfl
        have hxo : DgOk x := HKO.out x (List.mem_of_getElem? hx)
        rw [hgd] at HSK
        have hsl := Sl.of_own HOC.out.rw_.k
        obtain ⟨b, o, rfl, _, _⟩ := hsl.spot (by omega) (by omega)
        have hrx := sl_dgl hsl HKO.out hx
        have HXO := Lib.hid hxo; have HRX := Lib.hid hrx; have HXS := Lib.hid (hdg_size _ hxo); have HMS := Lib.hid (hdg_size _ HMO.out)
        have hbl : b < wr.heap.size := by
          obtain ⟨v, hv⟩ : ∃ v, (dl x)[0]? = some v := ⟨(dl x)[0]'(by rw [dl_len, hxo.len]; omega), List.getElem?_eq_getElem _⟩
          exact World.block_lt_of_cell? wr ⟨b, _, none⟩ (hrx 0 v hv)
        have HRG : Hid (∀ w' es' sv' ps', OC w w' lo g es' z gm gp l m L0.ks (some ⟨b, o, none⟩) N C zs B M D sv' ps' → w'.rangeAt b (o + k * 8) (dl x)) := fun w' es' sv' ps' h => sl_dgl (Sl.of_own h.rw_.k) HKO.out hx
        clear hx hgd hxo hsl hrx
        refine wp_region_held_drew (S := fun w' => Bk w' z 26 l ∧ Bk w' gm 23 (dl m) ∧ w'.rangeAt b (o + k * 8) (dl x)) (by kernel_rfl) ⟨Bk.drew HOC.out.lk, Bk.drew HOC.out.mg, HRG.out _ _ _ _ (HOC.out.later (below_draws wr _ 1))⟩ (fun hHeld => ?_)
        have hbd : Below wr.heap.size wr wr.drew := below_draws wr wr.heap.size 1
        obtain ⟨wa, hwa⟩ : ∃ wa, wr.drew = wa := ⟨_, rfl⟩
        rw [hwa] at hbd hHeld ⊢
        have HOCa := Lib.hid (HOC.out.later hbd)
        clear hwa hbd HOC hbl HRX
        refine wpAnyH_take (i := 0) (v := ?_) rfl (by kernel_rfl) (by kernel_rfl) (by kernel_rfl) (fun _ _ _ h => h) (Or.inl ⟨by rfl, ?_⟩) (by assumption) ?_
        rotate_left
        · intro w hSw
          (try dsimp only at hSw)
          go_simp
          try with_reducible rfl
        try simp only [Act.put, List.setIfInBounds_toArray, List.set_cons_zero, List.set_cons_succ, List.getElem_toArray, List.getElem_cons_zero, List.getElem_cons_succ]
        refine wpAnyH_take (i := 1) (v := ?_) rfl (by kernel_rfl) (by kernel_rfl) (by kernel_rfl) (fun _ _ _ h => h) (Or.inl ⟨by rfl, ?_⟩) (by assumption) ?_
        rotate_left
        · intro w hSw
          (try dsimp only at hSw)
          go_simp
          try with_reducible rfl
        try simp only [Act.put, List.setIfInBounds_toArray, List.set_cons_zero, List.set_cons_succ, List.getElem_toArray, List.getElem_cons_zero, List.getElem_cons_succ]
        refine wpAnyH_take (i := 3) (v := ?_) rfl (by kernel_rfl) (by kernel_rfl) (by kernel_rfl) (fun _ _ _ h => h) (Or.inl ⟨by rfl, ?_⟩) (by assumption) ?_
        rotate_left
        · intro w hSw
          (try dsimp only at hSw)
          go_simp
          try with_reducible rfl
        try simp only [Act.put, List.setIfInBounds_toArray, List.set_cons_zero, List.set_cons_succ, List.getElem_toArray, List.getElem_cons_zero, List.getElem_cons_succ]
        refine wpAnyH_take (i := 7) (v := .agg (List.toArray (dl m))) rfl (by kernel_rfl) (by kernel_rfl) (by kernel_rfl) (fun _ _ _ h => h) (yieldsIf_load_mid (by rfl) _ _ rfl _ _ rfl (dl m) _ (fun w hSw => (Bk.range (pre := []) (post := []) (by simpa using hSw.2.1) rfl)) Try.underlying23 rfl (HMS.out)) (by assumption) ?_
        try simp only [Act.put, List.setIfInBounds_toArray, List.set_cons_zero, List.set_cons_succ, List.getElem_toArray, List.getElem_cons_zero, List.getElem_cons_succ]
        refine wpAnyH_take (i := 2) (v := ?_) rfl (by kernel_rfl) (by kernel_rfl) (by kernel_rfl) (fun _ _ _ h => h) (Or.inl ⟨by rfl, ?_⟩) (by assumption) ?_
        rotate_left
        · intro w hSw
          have hcell := (HLM.out w _ hSw.1).c9
          clear hSw
          go_simp
          try with_reducible rfl
        try simp only [Act.put, List.setIfInBounds_toArray, List.set_cons_zero, List.set_cons_succ, List.getElem_toArray, List.getElem_cons_zero, List.getElem_cons_succ]
        refine wpAnyH_take (i := 4) (v := ?_) rfl (by kernel_rfl) (by kernel_rfl) (by kernel_rfl) (fun _ _ _ h => h) (Or.inl ⟨by rfl, ?_⟩) (by assumption) ?_
        rotate_left
        · intro w hSw
          (try dsimp only at hSw)
          go_simp
          try with_reducible rfl
        try simp only [Act.put, List.setIfInBounds_toArray, List.set_cons_zero, List.set_cons_succ, List.getElem_toArray, List.getElem_cons_zero, List.getElem_cons_succ]
        refine wpAnyH_take (i := 5) (v := .agg (List.toArray (dl x))) rfl (by kernel_rfl) (by kernel_rfl) (by kernel_rfl) (fun _ _ _ h => h) (yieldsIf_load_mid (by rfl) _ _ rfl _ _ rfl (dl x) _ (fun w hSw => hSw.2.2) Try.underlying23 rfl (HXS.out)) (by assumption) ?_
        try simp only [Act.put, List.setIfInBounds_toArray, List.set_cons_zero, List.set_cons_succ, List.getElem_toArray, List.getElem_cons_zero, List.getElem_cons_succ]
        refine wpAnyH_ready (rs := [6]) (by kernel_rfl) (by simp) ?_
        refine AllReadyH.cons rfl (fun K hK => ?_) AllReadyH.nil
        go_simp
        (go_at_call 40; refine (signer_any wa g x HXO.out).mono ?_; rintro e wb ⟨rfl, hbn⟩; have HOCb := Lib.hid (HOCa.out.later hbn); clear hbn)
        refine hK.out _ _ (⟨HOCb.out.lk, HOCb.out.mg, HRG.out _ _ _ _ HOCb.out⟩) (fun hHeld => ?_)
        clear hK K
        try simp only [Act.put, List.setIfInBounds_toArray, List.set_cons_zero, List.set_cons_succ, List.getElem_toArray, List.getElem_cons_zero, List.getElem_cons_succ]
        have hmt := meth_wr (wrC g x).toArray
        have hel2 : (sg k).2.length < 65536 := by have h1 := HSGL.out k; have h2 := HEL.out; omega
        refine wpAnyH_ready (rs := [8]) (by kernel_rfl) (by simp) ?_
        refine AllReadyH.cons rfl (fun K hK => ?_) AllReadyH.nil
        go_simp
        (refine (wsign_any wb lo g (sg k).2 HOCb.out.bk x m HXO.out HMO.out hel2 (Nat.le_trans HOCb.out.lw HOCb.out.hk.size)).mono ?_; rintro e wd ⟨⟨A9, c9, rfl, hown⟩, hbk7, hb7, hk7⟩; have HOCd := Lib.hid (HOCb.out.sign hk7 hb7 hbk7); have HOW := Lib.hid (own_base hown (Nat.zero_le _)); clear hown hbk7 hb7 hk7 hmt)
        refine hK.out _ _ (⟨HOCd.out.lk, HOCd.out.mg, HRG.out _ _ _ _ HOCd.out⟩) (fun hHeld => ?_)
        clear hK K
        try simp only [Act.put, List.setIfInBounds_toArray, List.set_cons_zero, List.set_cons_succ, List.getElem_toArray, List.getElem_cons_zero, List.getElem_cons_succ]
        refine wpAnyH_take (i := 9) (v := ?_) rfl (by kernel_rfl) (by kernel_rfl) (by kernel_rfl) (fun _ _ _ h => h) (Or.inl ⟨by rfl, ?_⟩) (by assumption) ?_
        rotate_left
        · intro w hSw
          (try dsimp only at hSw)
          go_simp
          try with_reducible rfl
        try simp only [Act.put, List.setIfInBounds_toArray, List.set_cons_zero, List.set_cons_succ, List.getElem_toArray, List.getElem_cons_zero, List.getElem_cons_succ]
        refine wpAnyH_take (i := 10) (v := ?_) rfl (by kernel_rfl) (by kernel_rfl) (by kernel_rfl) (fun _ _ _ h => h) (Or.inl ⟨by rfl, ?_⟩) (by assumption) ?_
        rotate_left
        · intro w hSw
          (try dsimp only at hSw)
          go_simp
          try with_reducible rfl
        try simp only [Act.put, List.setIfInBounds_toArray, List.set_cons_zero, List.set_cons_succ, List.getElem_toArray, List.getElem_cons_zero, List.getElem_cons_succ]
        refine wpAnyH_take (i := 11) (v := ?_) rfl (by kernel_rfl) (by kernel_rfl) (by kernel_rfl) (fun _ _ _ h => h) (Or.inl ⟨by rfl, ?_⟩) (by assumption) ?_
        rotate_left
        · intro w hSw
          (try dsimp only at hSw)
          go_simp
          try with_reducible rfl
        try simp only [Act.put, List.setIfInBounds_toArray, List.set_cons_zero, List.set_cons_succ, List.getElem_toArray, List.getElem_cons_zero, List.getElem_cons_succ]
        refine wpAnyH_take (i := 12) (v := ?_) rfl (by kernel_rfl) (by kernel_rfl) (by kernel_rfl) (fun _ _ _ h => h) (Or.inl ⟨by rfl, ?_⟩) (by assumption) ?_
        rotate_left
        · intro w hSw
          (try dsimp only at hSw)
          go_simp
          try with_reducible rfl
        try simp only [Act.put, List.setIfInBounds_toArray, List.set_cons_zero, List.set_cons_succ, List.getElem_toArray, List.getElem_cons_zero, List.getElem_cons_succ]
        refine wpAnyH_done (by kernel_rfl) ?_ _
        clear hHeld HOCa HOCb hel2
        have HPC : Hid (PcsOwn wd 0 [⟨A9, 2, c9, sigB ((sg k).2.idxOf (x, m))⟩]) := fun p hp => by rw [List.mem_singleton] at hp; subst hp; exact HOW.out
        have HNEW : Hid (sg (k + 1) = ((sg k).1 ++ [sigB ((sg k).2.idxOf (x, m))], bookS (sg k).2 (x, m))) := HSK
        clear HOW HSK
        have cgp := (pf_mem zero_ok HOCd.out.pf).c9
        go_wp2_with (with_reducible refine stop_bs 37 _ _ rfl ?_)
        clear cgp
        refine StopD.go ?_
        refine wpList_bsliceG rfl 37 1 _ rfl #[(0, .slice A9 2 c9)] ?_ 56 [.slice A9 2 c9] (fun w => bs_s1 A9 2 c9 w) ?_
        · simp [Act.eval, Act.put]
        intro q8 w8 hq8 hb8 hbn
        have HOC8 := Lib.hid (HOCd.out.later hbn); have HPC8 := Lib.hid (HPC.out.later hbn); have HB8 := Lib.hid hb8
        clear hq8 hb8 hbn HOCd HPC
        go_wp2_with (at_builtin; refine stop_here ?_)
        refine StopD.go ?_
        obtain ⟨i0, hi, hi0, hi1, hi2⟩ := info_parts Try.infoSlB
        have hpl := HPS.out.2; have hkb := HKB.out
        refine wpList_app _ rfl (.tmp 43) (.tmp 45) 37 rfl w.heap.size 56 i0 (.slice none 0 0) 1 24 Try.underlying37 hi hi0 hi1 hi2 rfl (by decide) _ _ _ rfl HOC8.out.sg _ _ _ _ _ rfl (Sl.of_own (HB8.out.own (base := 0) (size := 1) (cap := 1) (n := 1) (Nat.zero_le _) (Nat.le_refl _) (by omega) rfl rfl)) (by intro u hu; simp at hu; subst hu; rfl) (by unfold maxLen; omega) (by omega) HOC8.out.hk.size ?_
        intro v9 w9 hown hg hat
        obtain ⟨A10, c10, hv9⟩ := own_form hown
        subst hv9
        have kp := HOC8.out.pf.grown hg (Ne.symm (own_bk_ne HOC8.out.sg HOC8.out.pf (by decide)))
        have HOWN := Lib.hid hown; have HG9 := Lib.hid hg; have KP9 := Lib.hid kp
        clear hat hi hi0 hi1 hi2 hpl hkb hown hg kp
        go_wp2_with (with_reducible refine stop_store 37 _ _ rfl ?_)
        refine StopD.go ?_
        refine wpList_store_part rfl 37 _ _ rfl gp 9 (.slice A10 (ps.length + 1) c10) [.slice A10 (ps.length + 1) c10] rfl rfl rfl 39 (dl zeroD ++ [.slice B M D]) [sv] [] (by have := KP9.out; simpa [pfC] using this) rfl rfl (by kernel_rfl) (by intro x hx; simp at hx; subst hx; rfl) ?_
        intro w10 hp
        have HOC10 := Lib.hid (HOC8.out.app (p := ⟨A9, 2, c9, sigB ((sg k).2.idxOf (x, m))⟩) HPC8.out HOWN.out HG9.out (by simpa [pfC] using hp))
        clear hp HOWN HG9 KP9 HOC8 HPC8 HB8
        have hkb := HKB.out
        go_wp2_with fail
        go_roundw
        case rel =>
          refine ⟨k + 1, hlt, by go_num, .slice A10 (ps.length + 1) c10, ps ++ [⟨A9, 2, c9, sigB ((sg k).2.idxOf (x, m))⟩], ?_, ?_⟩
          rotate_left
          · show _ ∧ _
            rw [HNEW.out]
            exact ⟨by simp [HPS.out.1], by simp [HPS.out.2]⟩
          · show OC _ _ _ _ _ _ _ _ _ _ _ _ _ _ _ _ _ _ _ _
            rw [HNEW.out]
            exact HOC10.out
        case measure => simp [intOf]; omega
      · have hd : decide ((k : Int) < many) = false := by simpa using hm
        have HNEW : Hid (sg (k + 1) = ((sg k).1 ++ [[]], (sg k).2)) := HSGF.out k (by omega)
        have HPC : Hid (PcsOwn wr 0 [⟨none, 0, 0, []⟩]) := fun p hp => by rw [List.mem_singleton] at hp; subst hp; exact World.ownsRow_nil _ _ _ _
        clear hm
        have cgp := (pf_mem zero_ok HOC.out.pf).c9
        go_wp2_with (with_reducible refine stop_bs 37 _ _ rfl ?_)
        clear cgp
        refine StopD.go ?_
        refine wpList_bsliceG rfl 37 1 _ rfl #[(0, .slice none 0 0)] ?_ 56 [.slice none 0 0] (fun w => bs_s1 none 0 0 w) ?_
        · simp [Act.eval, Act.put]
        intro q8 w8 hq8 hb8 hbn
        have HOC8 := Lib.hid (HOC.out.later hbn); have HPC8 := Lib.hid (HPC.out.later hbn); have HB8 := Lib.hid hb8
        clear hq8 hb8 hbn HOC HPC
        go_wp2_with (at_builtin; refine stop_here ?_)
        refine StopD.go ?_
        obtain ⟨i0, hi, hi0, hi1, hi2⟩ := info_parts Try.infoSlB
        have hpl := HPS.out.2; have hkb := HKB.out
        refine wpList_app _ rfl (.tmp 43) (.tmp 45) 37 rfl w.heap.size 56 i0 (.slice none 0 0) 1 24 Try.underlying37 hi hi0 hi1 hi2 rfl (by decide) _ _ _ rfl HOC8.out.sg _ _ _ _ _ rfl (Sl.of_own (HB8.out.own (base := 0) (size := 1) (cap := 1) (n := 1) (Nat.zero_le _) (Nat.le_refl _) (by omega) rfl rfl)) (by intro u hu; simp at hu; subst hu; rfl) (by unfold maxLen; omega) (by omega) HOC8.out.hk.size ?_
        intro v9 w9 hown hg hat
        obtain ⟨A10, c10, hv9⟩ := own_form hown
        subst hv9
        have kp := HOC8.out.pf.grown hg (Ne.symm (own_bk_ne HOC8.out.sg HOC8.out.pf (by decide)))
        have HOWN := Lib.hid hown; have HG9 := Lib.hid hg; have KP9 := Lib.hid kp
        clear hat hi hi0 hi1 hi2 hpl hkb hown hg kp
        go_wp2_with (with_reducible refine stop_store 37 _ _ rfl ?_)
        refine StopD.go ?_
        refine wpList_store_part rfl 37 _ _ rfl gp 9 (.slice A10 (ps.length + 1) c10) [.slice A10 (ps.length + 1) c10] rfl rfl rfl 39 (dl zeroD ++ [.slice B M D]) [sv] [] (by have := KP9.out; simpa [pfC] using this) rfl rfl (by kernel_rfl) (by intro x hx; simp at hx; subst hx; rfl) ?_
        intro w10 hp
        have HOC10 := Lib.hid (HOC8.out.app (p := ⟨none, 0, 0, []⟩) HPC8.out HOWN.out HG9.out (by simpa [pfC] using hp))
        clear hp HOWN HG9 KP9 HOC8 HPC8 HB8
        have hkb := HKB.out
        go_wp2_with fail
        go_roundw
        case rel =>
          refine ⟨k + 1, hlt, by go_num, .slice A10 (ps.length + 1) c10, ps ++ [⟨none, 0, 0, []⟩], ?_, ?_⟩
          rotate_left
          · show _ ∧ _
            rw [HNEW.out]
            exact ⟨by simp [HPS.out.1], by simp [HPS.out.2]⟩
          · show OC _ _ _ _ _ _ _ _ _ _ _ _ _ _ _ _ _ _ _ _
            rw [HNEW.out]
            exact HOC10.out
        case measure => simp [intOf]; omega
    · have hki : ¬ ((k : Int) < N) := by omega
      obtain rfl : N = k := by omega
      go_wp2_with (first
        | (with_reducible refine wpList_load_bk rfl 39 _ rfl gp rfl (pfC zeroD (.slice B M D) sv) 39 HOC.out.pf _ Try.underlying39 rfl (pf_sz zero_ok _ _) ?_)
        | (with_reducible refine stop_store 39 _ _ rfl ?_))
      refine StopD.go ?_
      obtain ⟨E, F, hsv⟩ := own_form HOC.out.sg
      rw [HPS.out.2] at hsv
      subst hsv
      refine wpList_store_part rfl 39 _ _ rfl (z + 1) 0 (.agg (pfC zeroD (.slice B M D) (.slice E N F)).toArray) (pfC zeroD (.slice B M D) (.slice E N F)) rfl rfl rfl 39 [] zPf [] (by simpa using HOC.out.rs) rfl rfl (pf_sz zero_ok _ _) (pf_one _ _ _ _ _ _ _) ?_
      intro w9 hp
      have KR : Hid (Bk w9 (z + 1) 39 (pfC zeroD (.slice B M D) (.slice E N F))) := by show Bk _ _ _ _; have := hp.bk; simpa using this
      have k1 := HOC.out.rw_; have k2 := HOC.out.sg; have k3 := HOC.out.rs
      have hzz : w.heap.size ≤ z + 1 := by rw [HZ.out]; omega
      have KK := Lib.hid (KeepsT HOC.out.hk hp.only hzz)
      have KB : Hid (Below lo w w9) := below_only HOC.out.hb hp.only (Nat.le_trans HOC.out.lw HOC.out.hk.size) (Nat.le_trans HOC.out.lw hzz)
      have KW : Hid (Rw w9 L0.ks A N C zs B M D) := ⟨own_only k1.k hp.only (own_bk_ne k1.k k3 (by decide)), own_only k1.z hp.only (own_bk_ne k1.z k3 (by decide))⟩
      have KS := Lib.hid (own_base (own_only k2 hp.only (own_bk_ne k2 k3 (by decide))) (Nat.zero_le _))
      have KP : Hid (PcsOwn w9 0 ps) := fun q hq => own_only (HOC.out.po q hq) hp.only (own_bk_ne (HOC.out.po q hq) k3 (by decide))
      have KBK := Lib.hid (HOC.out.bk.put hp k3 (by decide) (by decide))
      clear hp k1 k2 k3 hzz
      go_wp2_with fail
      refine bodyPost_ret (out_ret KR.out (pf_sz zero_ok _ _) _ rfl) rfl ?_
      refine ⟨⟨E, F, ps, rfl, by have := KS.out; rw [HPS.out.2] at this; exact this, KP.out, by rw [HSGE.out]; exact HPS.out.1⟩, by rw [HSGE.out]; exact KBK.out, KB.out, KK.out, KW.out⟩
end Go.Proofs.Ytbclfjdamklbpaa
