/- How a lock by an outcome is opened: the walk; how a lock is opened, and whether it goes back. -/
import Derived.Test.YtbclfjdamklbpaaL4
namespace Go.Proofs.Ytbclfjdamklbpaa
set_option linter.unusedSimpArgs false
set_option linter.unusedVariables false
open Go.RowKit Go.Maps

theorem int_at {w : World} {B n : Nat} {A : Option Addr} {zs : List Int} (h : Sl w B 1 A n (zs.map (.int .i64))) {k : Nat} (hk : k < n) : ∃ b o z, A = some ⟨b, o, none⟩ ∧ zs[k]? = some z ∧ b < B ∧ w.cell? ⟨b, o + k, none⟩ = some (.int .i64 z) := by
  obtain ⟨b, o, rfl, hb, hc⟩ := h.spot (by omega) (by omega)
  have hl := h.length
  obtain ⟨p, hp⟩ : ∃ p, zs[k]? = some p := ⟨zs[k]'(by omega), List.getElem?_eq_getElem _⟩
  exact ⟨b, o, p, rfl, hp, hb, hc k _ (by rw [List.getElem?_map, hp]; rfl)⟩
/-- What opens one by an outcome: what is paid, and who signed. -/
structure PrT (w : World) (B : Option Addr) (M : Nat) (zs : List Int) (E : Option Addr) (Q : Nat) (ps : List Pc) : Prop where
  z : Sl w w.heap.size 1 B M (zs.map (.int .i64))
  zr : ∀ z ∈ zs, 0 ≤ z ∧ z ≤ 1125899906842624
  p : Sl w w.heap.size 1 E Q (ps.map Pc.v)
  po : PcsOk w ps
  pb : PcsBy ps
  pn : ∀ p ∈ ps, p.n ≤ 4294967296
  ml : M ≤ 1000
theorem PrT.later {w w' : World} {B E : Option Addr} {M Q : Nat} {zs : List Int} {ps : List Pc} (h : PrT w B M zs E Q ps) (hb : Below w.heap.size w w') : PrT w' B M zs E Q ps :=
  ⟨h.z.later hb, h.zr, h.p.later hb, h.po.later hb, h.pb, h.pn, h.ml⟩
/-- A lock's keys. -/
structure LkK (w : World) (L : LkT) (A : Option Addr) (N : Nat) : Prop where
  k : Sl w w.heap.size 8 A N (cellsD L.ks)
  ko : DsOk L.ks
  h : DgOk L.h
  n : N ≤ 1000
theorem LkK.later {w w' : World} {L : LkT} {A : Option Addr} {N : Nat} (h : LkK w L A N) (hb : Below w.heap.size w w') : LkK w' L A N := ⟨h.k.later hb, h.ko, h.h, h.n⟩
def msgO (h : List Int) (zs : List Int) : List Int := ofI (pyB h zs)
def outO (es : List Ent) (L : LkT) (N : Nat) (zs : List Int) (ps : List Pc) : Int × Int :=
  if zs.length ≠ N then (0, 3) else if allB es (msgO L.h zs) L.ks ps [] = true then (max 0 (L.c - zs.getD L.s.toNat 0), 0) else (0, 16)
theorem build_py (t : List Int) (ht : DgOk t) (A : Option Addr) (N C : Nat) (w : World) : (Instr.build 90 #[(0, .agg (dl t).toArray), (1, .slice A N C)]).run Try.prog w = .ok (.agg (pyC t (.slice A N C)).toArray) w := by
  obtain ⟨t0, t1, t2, t3, t4, t5, t6, t7, rfl⟩ := list8 t ht.len
  kernel_rfl
set_option maxRecDepth 20000 in
set_option maxHeartbeats 4000000 in
theorem byOutcome_any (w : World) (lo g : Nat) (es : List Ent) (hbk : BookAt w lo g es) (hel : es.length ≤ 65536) (L : LkT) (A : Option Addr) (N C : Nat) (hl : LkK w L A N) (h0 : 0 ≤ L.s) (h1 : L.s < N) (hc0 : 0 ≤ L.c) (hc1 : L.c ≤ 1125899906842624)
    (key : List Int) (hk : DgOk key) (B E : Option Addr) (M D Q G : Nat) (zs : List Int) (ps : List Pc) (hp : PrT w B M zs E Q ps) (hq : M = N → Q = N) :
    Calls Try.prog 70 #[.agg (lkC L (.slice A N C)).toArray, .iface 29 (.pointer (some ⟨g, 0, none⟩)), .agg (pfC key (.slice B M D) (.slice E Q G)).toArray] w (RetO (outO es L N zs ps) w) := by
  have HK0 := Lib.hid hl; have HP0 := Lib.hid hp; have HBK := Lib.hid hbk
  have hh := hl.h
  have HZL := Lib.hid hp.z.length
  have HSR : Hid (0 ≤ L.s ∧ L.s < N ∧ 0 ≤ L.c ∧ L.c ≤ 1125899906842624) := ⟨h0, h1, hc0, hc1⟩
  obtain ⟨L0, hL0⟩ : ∃ x, L = x := ⟨_, rfl⟩
  rw [hL0] at hh HK0 HSR ⊢
  clear hl hp hbk h0 h1 hc0 hc1 hL0 L
  obtain ⟨L, hL⟩ : ∃ x, lkC L0 (.slice A N C) = x := ⟨_, rfl⟩
  obtain ⟨X, hX⟩ : ∃ X, L.toArray = X := ⟨_, rfl⟩
  obtain ⟨F, hF⟩ : ∃ x, pfC key (.slice B M D) (.slice E Q G) = x := ⟨_, rfl⟩
  obtain ⟨Y, hY⟩ : ∃ Y, F.toArray = Y := ⟨_, rfl⟩
  obtain ⟨w1, hw1⟩ : ∃ w1, (w.alloc (.cells X 26)).alloc (.cells Y 39) = w1 := ⟨_, rfl⟩
  have hb1 : Below w.heap.size w w1 := hw1 ▸ (below_new w _).alloc (by simp) _
  have kx : Bk w1 w.heap.size 26 L := hw1 ▸ (Bk.new' w _ X (by rw [← hX])).alloc _
  have ky : Bk w1 (w.heap.size + 1) 39 F := hw1 ▸ Bk.at_ _ _ Y (by simp) (by rw [← hY])
  have HLM : Hid (∀ w' g', Bk w' g' 26 L → LkM w' g' L0 (.slice A N C)) := fun w' g' h' => by rw [← hL] at h'; exact lk_mem hh h'
  have HPM : Hid (∀ w' g', Bk w' g' 39 F → PfM w' g' key (.slice B M D) (.slice E Q G)) := fun w' g' h' => by rw [← hF] at h'; exact pf_mem hk h'
  have HW := Lib.hid hw1; have HBB1 := Lib.hid hb1; have HX1 := Lib.hid kx; have HY1 := Lib.hid ky; have HHO := Lib.hid hh; have HKO := Lib.hid hk; have HLE := Lib.hid hL; have HFE := Lib.hid hF
  rw [hL, hF, hX, hY]
  clear hL hX hF hY hw1 hb1 kx ky hh hk
  have c9 := (HLM.out w1 _ HX1.out).c9; have c8 := (HPM.out w1 _ HY1.out).c8
  by_cases hMN : M = N
  · subst hMN
    obtain rfl := hq rfl
    clear hq
    go_enter Try.func70, Try.ntmps70
    go_upto_region 1 with fail
    rw [HW.out]
    go_wp2_with fail
    go_loopw [9, 21] (fun _ kv wr => ∃ k : Nat, k ≤ Q ∧ kv = .int .i64 k ∧ Hid (Below w1.heap.size w1 wr)) (fun _ kv _ => Q - (intOf kv).toNat)
    case atStart => exact ⟨0, Nat.zero_le _, rfl, Below.refl _ _⟩
    case round =>
      obtain ⟨k, hk, rfl, HB⟩ := hrel
      by_cases hlt : k < Q
      · have hki : (k : Int) < Q := by omega
        have hk0 : (0 : Int) ≤ k := by omega
        have hml := HP0.out.ml
        obtain ⟨b, o, x, rfl, hx, _, hcell⟩ := int_at ((HP0.out.later HBB1.out).later HB.out).z hlt
        have hr := HP0.out.zr x (List.mem_of_getElem? hx)
        clear hx
        go_wp2_with fail
        refine (rightC_any x hr.1 hr.2 wr).mono ?_
        rintro e w2 ⟨rfl, rfl⟩
        clear hr hcell
        go_wp2_with fail
        go_roundw
        case rel => exact ⟨k + 1, hlt, by go_num, HB⟩
        case measure => simp [intOf]; omega
      · have hki : ¬ ((k : Int) < Q) := by omega
        have HKr := Lib.hid ((HK0.out.later HBB1.out).later HB.out); have HPr := Lib.hid ((HP0.out.later HBB1.out).later HB.out); have HXr := Lib.hid (HX1.out.later HB.out); have HYr := Lib.hid (HY1.out.later HB.out); have HBr := Lib.hid (below_then HBB1.out HB.out); have HBKr := Lib.hid ((HBK.out.later HBB1.out).later HB.out)
        have hb1 := build_py L0.h HHO.out B Q D
        have c8r := (HPM.out wr _ HYr.out).c8
        have HLH := Lib.hid (hdg_size _ HHO.out)
        clear c9 c8 hlt hk
        go_wp2_with (first
          | (with_reducible refine wpList_load_mid rfl 23 _ rfl w.heap.size 1 rfl (dl L0.h) _ (HLM.out _ _ HXr.out).r1 Try.underlying23 rfl HLH.out ?_)
          | ((with_reducible refine wpList_build rfl 90 _ rfl #[(0, .agg (dl L0.h).toArray), (1, .slice B Q D)] ?_ _ (hb1 _) ?_); focus (simp [Act.eval, Act.put]; done)))
        clear hb1 c8r
        refine (pdigest_any wr L0.h HHO.out B Q D zs HPr.out.z (fun z hz => by have := HPr.out.zr z hz; omega) (by have := HPr.out.ml; omega)).mono ?_
        rintro e w2 ⟨rfl, hbn⟩
        have HK2 := Lib.hid (HKr.out.later hbn); have HP2 := Lib.hid (HPr.out.later hbn); have HX2 := Lib.hid (HXr.out.later hbn); have HY2 := Lib.hid (HYr.out.later hbn); have HB2 := Lib.hid (below_then HBr.out hbn); have HBK2 := Lib.hid (HBKr.out.later hbn)
        clear hbn HB HKr HPr HXr HYr HBr HBKr
        have HMO : Hid (DgOk (msgO L0.h zs)) := ofI_ok _
        rw [show ofI (pyB L0.h zs) = msgO L0.h zs from rfl]
        obtain ⟨m, hm⟩ : ∃ m, msgO L0.h zs = m := ⟨_, rfl⟩
        rw [hm] at HMO ⊢
        have HME := Lib.hid hm
        clear hm
        go_wp2_with (with_reducible refine stop_store 23 _ _ rfl ?_)
        refine StopD.go ?_
        obtain ⟨gm, hgm⟩ : ∃ q, w2.heap.size = q := ⟨_, rfl⟩
        obtain ⟨w3, hw3⟩ : ∃ w3, w2.alloc (.cells #[.int .u8 0, .int .u8 0, .int .u8 0, .int .u8 0, .int .u8 0, .int .u8 0, .int .u8 0, .int .u8 0] 23) = w3 := ⟨_, rfl⟩
        have hbn : Below w2.heap.size w2 w3 := hw3 ▸ below_new w2 _
        have kt : Bk w3 gm 23 ([] ++ (dl zeroD ++ [])) := by rw [← hw3]; exact Bk.at_ w2 _ _ hgm rfl
        rw [hgm, hw3]
        refine wpList_store_part rfl 23 _ _ rfl gm 0 (.agg (dl m).toArray) (dl m) rfl rfl rfl 23 [] (dl zeroD) [] kt rfl (by rw [dl_len, dl_len, HMO.out.len]; rfl) (hdg_size _ HMO.out) (dl_one' _) ?_
        intro w4 hp
        have hbn : Below w2.heap.size w2 w4 := hbn.grown hp.only hbn.size (fun q' hq' => by injection hq' with hq'; omega)
        have HG4 : Hid (Bk w4 gm 23 (dl m)) := by show Bk _ _ _ _; have := hp.bk; simpa using this
        have HK4 := Lib.hid (HK2.out.later hbn); have HP4 := Lib.hid (HP2.out.later hbn); have HX4 := Lib.hid (HX2.out.later hbn); have HY4 := Lib.hid (HY2.out.later hbn); have HB4 := Lib.hid (below_then HB2.out hbn); have HBK4 := Lib.hid (HBK2.out.later hbn)
        clear hp hbn kt hgm hw3 HK2 HP2 HX2 HY2 HB2 HBK2
        have c9 := (HLM.out w4 _ HX4.out).c9; have d9 := (HPM.out w4 _ HY4.out).c9
        have HMS := Lib.hid (hdg_size _ HMO.out)
        go_wp2_with (with_reducible refine wpList_load_bk rfl 23 _ rfl gm rfl (dl m) 23 HG4.out _ Try.underlying23 rfl HMS.out ?_)
        clear c9 d9
        refine (all_any w4 lo g es HBK4.out hel A Q C L0.ks HK4.out.k HK4.out.ko (by have := HK4.out.n; omega) (by have := HSR.out; omega) m HMO.out E G ps HP4.out.p HP4.out.po HP4.out.pb HP4.out.pn none 0 0 [] Sl.nil).mono ?_
        rintro e w5 ⟨rfl, hbn⟩
        have HX5 := Lib.hid (HX4.out.later hbn); have HY5 := Lib.hid (HY4.out.later hbn); have HB5 := Lib.hid (below_then HB4.out hbn); have HP5 := Lib.hid (HP4.out.later hbn)
        clear hbn HK4 HP4 HX4 HY4 HB4 HBK4 HG4
        obtain ⟨u, hu⟩ : ∃ u, allB es m L0.ks ps [] = u := ⟨_, rfl⟩
        rw [allE, hu]
        have HU : Hid (allB es (msgO L0.h zs) L0.ks ps [] = u) := by show _ = _; rw [HME.out, hu]
        clear hu
        cases u
        · rw [if_neg (by decide)]
          go_wp2_with fail
          go_ret2
          refine ⟨?_, HB5.out⟩
          rw [outO, if_neg (by rw [HZL.out]; simp), HU.out]
          rfl
        · rw [if_pos rfl]
          go_wp2_with fail
          have hsr := HSR.out
          obtain ⟨sn, hsn⟩ : ∃ n : Nat, L0.s = n := ⟨L0.s.toNat, by omega⟩
          obtain ⟨b, o, x, rfl, hx, _, hcell⟩ := int_at HP5.out.z (k := sn) (by omega)
          have hr := HP5.out.zr x (List.mem_of_getElem? hx)
          have c10 := (HLM.out w5 _ HX5.out).c10; have c11 := (HLM.out w5 _ HX5.out).c11; have c8 := (HPM.out w5 _ HY5.out).c8
          rw [hsn] at c10
          have HXX : Hid (zs.getD L0.s.toNat 0 = x) := by show _ = _; rw [hsn, Int.toNat_natCast, List.getD_eq_getElem?_getD, hx]; rfl
          clear hx
          have hsl : (sn : Int) < Q := by omega
          have hs0 : (0 : Int) ≤ sn := by omega
          have hwr : IntKind.i64.wrap (L0.c - x) = L0.c - x := by rw [IntWalk.i64_in]; omega
          have hw6 : wrap64 (L0.c - x) = L0.c - x := IntWalk.wrap64_in _ (by omega)
          refine wp_region_held_drew (S := fun w' => Bk w' w.heap.size 26 L ∧ Bk w' (w.heap.size + 1) 39 F ∧ w'.cell? ⟨b, o + sn, none⟩ = some (.int .i64 x)) (by kernel_rfl) ⟨Bk.drew HX5.out, Bk.drew HY5.out, hcell⟩ (fun hHeld => ?_)
          clear c8 c10 c11
          have HBd := Lib.hid (below_then HB5.out (below_draws w5 _ 1))
          refine wpAnyH_take (i := 0) (v := ?_) rfl (by kernel_rfl) (by kernel_rfl) (by kernel_rfl) (fun _ _ _ h => h) (Or.inl ⟨by rfl, ?_⟩) (by assumption) ?_
          rotate_left
          · intro w hSw
            (try dsimp only at hSw)
            go_simp
            try with_reducible rfl
          try simp only [Act.put, List.setIfInBounds_toArray, List.set_cons_zero, List.set_cons_succ, List.getElem_toArray, List.getElem_cons_zero, List.getElem_cons_succ]
          refine wpAnyH_take (i := 2) (v := ?_) rfl (by kernel_rfl) (by kernel_rfl) (by kernel_rfl) (fun _ _ _ h => h) (Or.inl ⟨by rfl, ?_⟩) (by assumption) ?_
          rotate_left
          · intro w hSw
            (try dsimp only at hSw)
            go_simp
            try with_reducible rfl
          try simp only [Act.put, List.setIfInBounds_toArray, List.set_cons_zero, List.set_cons_succ, List.getElem_toArray, List.getElem_cons_zero, List.getElem_cons_succ]
          refine wpAnyH_take (i := 4) (v := ?_) rfl (by kernel_rfl) (by kernel_rfl) (by kernel_rfl) (fun _ _ _ h => h) (Or.inl ⟨by rfl, ?_⟩) (by assumption) ?_
          rotate_left
          · intro w hSw
            (try dsimp only at hSw)
            go_simp
            try with_reducible rfl
          try simp only [Act.put, List.setIfInBounds_toArray, List.set_cons_zero, List.set_cons_succ, List.getElem_toArray, List.getElem_cons_zero, List.getElem_cons_succ]
          refine wpAnyH_take (i := 1) (v := ?_) rfl (by kernel_rfl) (by kernel_rfl) (by kernel_rfl) (fun _ _ _ h => h) (Or.inl ⟨by rfl, ?_⟩) (by assumption) ?_
          rotate_left
          · intro w hSw
            have hcell := (HLM.out w _ hSw.1).c11
            clear hSw
            go_simp
            try with_reducible rfl
          try simp only [Act.put, List.setIfInBounds_toArray, List.set_cons_zero, List.set_cons_succ, List.getElem_toArray, List.getElem_cons_zero, List.getElem_cons_succ]
          refine wpAnyH_take (i := 3) (v := ?_) rfl (by kernel_rfl) (by kernel_rfl) (by kernel_rfl) (fun _ _ _ h => h) (Or.inl ⟨by rfl, ?_⟩) (by assumption) ?_
          rotate_left
          · intro w hSw
            have hcell := (HPM.out w _ hSw.2.1).c8
            clear hSw
            go_simp
            try with_reducible rfl
          try simp only [Act.put, List.setIfInBounds_toArray, List.set_cons_zero, List.set_cons_succ, List.getElem_toArray, List.getElem_cons_zero, List.getElem_cons_succ]
          refine wpAnyH_take (i := 5) (v := ?_) rfl (by kernel_rfl) (by kernel_rfl) (by kernel_rfl) (fun _ _ _ h => h) (Or.inl ⟨by rfl, ?_⟩) (by assumption) ?_
          rotate_left
          · intro w hSw
            have hcell := (hsn ▸ (HLM.out w _ hSw.1).c10)
            clear hSw
            go_simp
            try with_reducible rfl
          try simp only [Act.put, List.setIfInBounds_toArray, List.set_cons_zero, List.set_cons_succ, List.getElem_toArray, List.getElem_cons_zero, List.getElem_cons_succ]
          refine wpAnyH_take (i := 6) (v := ?_) rfl (by kernel_rfl) (by kernel_rfl) (by kernel_rfl) (fun _ _ _ h => h) (Or.inl ⟨by rfl, ?_⟩) (by assumption) ?_
          rotate_left
          · intro w hSw
            (try dsimp only at hSw)
            go_simp
            try with_reducible rfl
          try simp only [Act.put, List.setIfInBounds_toArray, List.set_cons_zero, List.set_cons_succ, List.getElem_toArray, List.getElem_cons_zero, List.getElem_cons_succ]
          refine wpAnyH_take (i := 7) (v := ?_) rfl (by kernel_rfl) (by kernel_rfl) (by kernel_rfl) (fun _ _ _ h => h) (Or.inl ⟨by rfl, ?_⟩) (by assumption) ?_
          rotate_left
          · intro w hSw
            have hcell := hSw.2.2
            clear hSw
            go_simp
            try with_reducible rfl
          try simp only [Act.put, List.setIfInBounds_toArray, List.set_cons_zero, List.set_cons_succ, List.getElem_toArray, List.getElem_cons_zero, List.getElem_cons_succ]
          refine wpAnyH_take (i := 8) (v := ?_) rfl (by kernel_rfl) (by kernel_rfl) (by kernel_rfl) (fun _ _ _ h => h) (Or.inl ⟨by rfl, ?_⟩) (by assumption) ?_
          rotate_left
          · intro w hSw
            (try dsimp only at hSw)
            go_simp
            try with_reducible rfl
          try simp only [Act.put, List.setIfInBounds_toArray, List.set_cons_zero, List.set_cons_succ, List.getElem_toArray, List.getElem_cons_zero, List.getElem_cons_succ]
          refine wpAnyH_take (i := 9) (v := ?_) rfl (by kernel_rfl) (by kernel_rfl) (by kernel_rfl) (fun _ _ _ h => h) (Or.inl ⟨by rfl, ?_⟩) (by assumption) ?_
          rotate_left
          · intro w hSw
            (try dsimp only at hSw)
            go_simp
            try with_reducible rfl
          try simp only [Act.put, List.setIfInBounds_toArray, List.set_cons_zero, List.set_cons_succ, List.getElem_toArray, List.getElem_cons_zero, List.getElem_cons_succ]
          refine wpAnyH_take (i := 10) (v := ?_) rfl (by kernel_rfl) (by kernel_rfl) (by kernel_rfl) (fun _ _ _ h => h) (Or.inl ⟨by rfl, ?_⟩) (by assumption) ?_
          rotate_left
          · intro w hSw
            (try dsimp only at hSw)
            go_simp
            try with_reducible rfl
          try simp only [Act.put, List.setIfInBounds_toArray, List.set_cons_zero, List.set_cons_succ, List.getElem_toArray, List.getElem_cons_zero, List.getElem_cons_succ]
          refine wpAnyH_take (i := 11) (v := ?_) rfl (by kernel_rfl) (by kernel_rfl) (by kernel_rfl) (fun _ _ _ h => h) (Or.inl ⟨by rfl, ?_⟩) (by assumption) ?_
          rotate_left
          · intro w hSw
            (try dsimp only at hSw)
            go_simp
            try with_reducible rfl
          try simp only [Act.put, List.setIfInBounds_toArray, List.set_cons_zero, List.set_cons_succ, List.getElem_toArray, List.getElem_cons_zero, List.getElem_cons_succ]
          refine wpAnyH_done (by kernel_rfl) ?_ _
          clear hHeld
          go_wp2_with fail
          all_goals
            go_ret2
            refine ⟨?_, HBd.out⟩
            rw [outO, if_neg (by rw [HZL.out]; simp), HU.out, if_pos rfl, HXX.out]
            first
              | (rw [show max 0 (L0.c - x) = L0.c - x by omega]; rfl)
              | (rw [show max 0 (L0.c - x) = 0 by omega]; rfl)
  · have hne : ((M : Int) != (N : Int)) = true := by simp; omega
    clear hq
    have hne2 : (M != N) = true := by simpa using hMN
    have HNE := Lib.hid hMN
    clear hMN
    go_enter Try.func70, Try.ntmps70
    go_upto_region 1 with fail
    rw [HW.out]
    go_wp2_with fail
    go_ret2
    refine ⟨?_, HBB1.out⟩
    rw [outO, if_pos (by rw [HZL.out]; exact HNE.out)]
    rfl
/-- What opening one says. -/
def openO (es : List Ent) (L : LkT) (N : Nat) (now : Int) (key zs : List Int) (ps : List Pc) : Int × Int :=
  if checkL L.k L.s L.c L.u N = 0 then (if L.u < now then (0, 19) else if L.k = 0 then keyO L.h key L.c else outO es L N zs ps) else (0, checkL L.k L.s L.c L.u N)
theorem checkL_zero {k s c u : Int} {n : Nat} (h : checkL k s c u n = 0) : 1 ≤ c ∧ c ≤ 1125899906842624 ∧ 0 ≤ u ∧ u ≤ 1099511627776 ∧ ((k = 0 ∧ n = 0 ∧ s = 0) ∨ (k = 1 ∧ 2 ≤ n ∧ n ≤ 8 ∧ 0 ≤ s ∧ s < n)) := by
  unfold checkL at h
  split at h
  · cases h
  · split at h
    · cases h
    · split at h
      · split at h
        · cases h
        · split at h
          · cases h
          · omega
      · split at h
        · cases h
        · split at h
          · cases h
          · omega
set_option maxRecDepth 20000 in
set_option maxHeartbeats 4000000 in
theorem open_any (w : World) (lo g : Nat) (es : List Ent) (hbk : BookAt w lo g es) (hel : es.length ≤ 65536) (L : LkT) (A : Option Addr) (N C : Nat) (hl : LkK w L A N)
    (key : List Int) (hk : DgOk key) (B E : Option Addr) (M D Q G : Nat) (zs : List Int) (ps : List Pc) (hp : PrT w B M zs E Q ps) (hq : M = N → Q = N) (now : Int) :
    Calls Try.prog 13 #[.agg (lkC L (.slice A N C)).toArray, .iface 29 (.pointer (some ⟨g, 0, none⟩)), .int .i64 now, .agg (pfC key (.slice B M D) (.slice E Q G)).toArray] w (RetO (openO es L N now key zs ps) w) := by
  have HK0 := Lib.hid hl; have HP0 := Lib.hid hp; have HBK := Lib.hid hbk
  have hh := hl.h
  obtain ⟨L0, hL0⟩ : ∃ x, L = x := ⟨_, rfl⟩
  rw [hL0] at hh HK0 ⊢
  clear hl hp hbk hL0 L
  have HZL := Lib.hid (fun p => lk_sz hh p); have HZP := Lib.hid (fun p q => pf_sz hk p q)
  have HCK := Lib.hid (fun w' => lcheck_any w' L0 hh A N C)
  have HBK1 := Lib.hid (fun w' (v : Value) => byKey_any w' L0 hh A N C v key hk (.slice B M D) (.slice E Q G))
  have HBO1 := Lib.hid (fun w' (hbk : BookAt w' lo g es) (hl : LkK w' L0 A N) h0 h1 hc0 hc1 (hp : PrT w' B M zs E Q ps) => byOutcome_any w' lo g es hbk hel L0 A N C hl h0 h1 hc0 hc1 key hk B E M D Q G zs ps hp hq)
  obtain ⟨z, hz⟩ : ∃ z, checkL L0.k L0.s L0.c L0.u N = z := ⟨_, rfl⟩
  have HZ := Lib.hid hz
  have HOO : Hid (openO es L0 N now key zs ps = if z = 0 then (if L0.u < now then (0, 19) else if L0.k = 0 then keyO L0.h key L0.c else outO es L0 N zs ps) else (0, z)) := by show _ = _; rw [openO, hz]
  rw [hz] at HCK
  clear hz
  obtain ⟨L, hL⟩ : ∃ x, lkC L0 (.slice A N C) = x := ⟨_, rfl⟩
  obtain ⟨X, hX⟩ : ∃ X, L.toArray = X := ⟨_, rfl⟩
  obtain ⟨F, hF⟩ : ∃ x, pfC key (.slice B M D) (.slice E Q G) = x := ⟨_, rfl⟩
  obtain ⟨Y, hY⟩ : ∃ Y, F.toArray = Y := ⟨_, rfl⟩
  obtain ⟨w1, hw1⟩ : ∃ w1, (w.alloc (.cells X 26)).alloc (.cells Y 39) = w1 := ⟨_, rfl⟩
  have hb1 : Below w.heap.size w w1 := hw1 ▸ (below_new w _).alloc (by simp) _
  have kx : Bk w1 w.heap.size 26 L := hw1 ▸ (Bk.new' w _ X (by rw [← hX])).alloc _
  have ky : Bk w1 (w.heap.size + 1) 39 F := hw1 ▸ Bk.at_ _ _ Y (by simp) (by rw [← hY])
  have HLM : Hid (∀ w' g', Bk w' g' 26 L → LkM w' g' L0 (.slice A N C)) := fun w' g' h' => by rw [← hL] at h'; exact lk_mem hh h'
  have HPM : Hid (∀ w' g', Bk w' g' 39 F → PfM w' g' key (.slice B M D) (.slice E Q G)) := fun w' g' h' => by rw [← hF] at h'; exact pf_mem hk h'
  have HW := Lib.hid hw1; have HBB1 := Lib.hid hb1; have HX1 := Lib.hid kx; have HY1 := Lib.hid ky; have HHO := Lib.hid hh; have HKO := Lib.hid hk; have HLE := Lib.hid hL; have HFE := Lib.hid hF
  rw [hL, hF, hX, hY]
  clear hL hX hF hY hw1 hb1 kx ky hh hk
  have HSL : Hid ((Try.prog.info? 26).map (·.size) = some L.length) := by show _ = _; rw [← HLE.out]; exact HZL.out _
  have HSF : Hid ((Try.prog.info? 39).map (·.size) = some F.length) := by show _ = _; rw [← HFE.out]; exact HZP.out _ _
  rw [HLE.out] at HCK HBK1 HBO1
  rw [HFE.out] at HBK1 HBO1
  obtain ⟨R, hR⟩ : ∃ R, openO es L0 N now key zs ps = R := ⟨_, rfl⟩
  rw [hR] at HOO ⊢
  clear hR
  by_cases hz0 : z = 0
  · subst hz0
    obtain ⟨e1, e2, e3, e4, e5⟩ := checkL_zero HZ.out
    have HCC : Hid (1 ≤ L0.c ∧ L0.c ≤ 1125899906842624) := ⟨e1, e2⟩
    have HE5 := Lib.hid e5
    clear e1 e2 e3 e4 e5
    by_cases hn : L0.u < now
    · have HR : Hid (R = (0, 19)) := by show _ = _; rw [HOO.out, if_pos rfl, if_pos hn]
      have hd : decide (L0.u < now) = true := by simpa using hn
      clear hn
      go_enter Try.func13, Try.ntmps13
      go_upto_region 1 with fail
      rw [HW.out]
      go_wp2_with (with_reducible refine wpList_load_bk rfl 26 _ rfl w.heap.size rfl L 26 HX1.out _ Try.underlying26 rfl HSL.out ?_)
      refine (HCK.out w1).mono ?_
      rintro e w2 ⟨rfl, hbn⟩
      have HB2 := Lib.hid (below_then HBB1.out hbn)
      have c12 := (HLM.out w2 _ (HX1.out.later hbn)).c12
      clear hbn
      go_wp2_with fail
      go_ret2
      exact ⟨by rw [HR.out]; rfl, HB2.out⟩
    · have HR : Hid (R = if L0.k = 0 then keyO L0.h key L0.c else outO es L0 N zs ps) := by show _ = _; rw [HOO.out, if_pos rfl, if_neg hn]
      have hd : decide (L0.u < now) = false := by simpa using hn
      clear hn
      go_enter Try.func13, Try.ntmps13
      go_upto_region 1 with fail
      rw [HW.out]
      go_wp2_with (with_reducible refine wpList_load_bk rfl 26 _ rfl w.heap.size rfl L 26 HX1.out _ Try.underlying26 rfl HSL.out ?_)
      refine (HCK.out w1).mono ?_
      rintro e w2 ⟨rfl, hbn⟩
      have HX2 := Lib.hid (HX1.out.later hbn); have HY2 := Lib.hid (HY1.out.later hbn); have HB2 := Lib.hid (below_then HBB1.out hbn)
      have c12 := (HLM.out w2 _ HX2.out).c12
      clear hbn
      go_upto_region 6 with fail
      clear c12 hd
      refine wp_region_held_drew (S := fun w' => Bk w' w.heap.size 26 L ∧ Bk w' (w.heap.size + 1) 39 F) (by kernel_rfl) ⟨Bk.drew HX2.out, Bk.drew HY2.out⟩ (fun hHeld => ?_)
      have hbd : Below w2.heap.size w2 w2.drew := below_draws w2 w2.heap.size 1
      obtain ⟨wa, hwa⟩ : ∃ wa, w2.drew = wa := ⟨_, rfl⟩
      rw [hwa] at hbd hHeld ⊢
      have HXa := Lib.hid (HX2.out.later hbd); have HYa := Lib.hid (HY2.out.later hbd); have HBa := Lib.hid (below_then HB2.out hbd)
      clear hwa hbd HX2 HY2 HB2
      refine wpAnyH_take (i := 1) (v := ?_) rfl (by kernel_rfl) (by kernel_rfl) (by kernel_rfl) (fun _ _ _ h => h) (Or.inl ⟨by rfl, ?_⟩) (by assumption) ?_
      rotate_left
      · intro w hSw
        (try dsimp only at hSw)
        go_simp
        try with_reducible rfl
      try simp only [Act.put, List.setIfInBounds_toArray, List.set_cons_zero, List.set_cons_succ, List.getElem_toArray, List.getElem_cons_zero, List.getElem_cons_succ]
      refine wpAnyH_take (i := 5) (v := ?_) rfl (by kernel_rfl) (by kernel_rfl) (by kernel_rfl) (fun _ _ _ h => h) (Or.inl ⟨by rfl, ?_⟩) (by assumption) ?_
      rotate_left
      · intro w hSw
        (try dsimp only at hSw)
        go_simp
        try with_reducible rfl
      try simp only [Act.put, List.setIfInBounds_toArray, List.set_cons_zero, List.set_cons_succ, List.getElem_toArray, List.getElem_cons_zero, List.getElem_cons_succ]
      refine wpAnyH_take (i := 4) (v := .agg (List.toArray (L))) rfl (by kernel_rfl) (by kernel_rfl) (by kernel_rfl) (fun _ _ _ h => h) (yieldsIf_load_mid (by rfl) _ _ rfl _ _ rfl (L) _ (fun w hSw => (Bk.range (pre := []) (post := []) (by simpa using hSw.1) rfl)) Try.underlying26 rfl (HSL.out)) (by assumption) ?_
      try simp only [Act.put, List.setIfInBounds_toArray, List.set_cons_zero, List.set_cons_succ, List.getElem_toArray, List.getElem_cons_zero, List.getElem_cons_succ]
      refine wpAnyH_take (i := 6) (v := .agg (List.toArray (F))) rfl (by kernel_rfl) (by kernel_rfl) (by kernel_rfl) (fun _ _ _ h => h) (yieldsIf_load_mid (by rfl) _ _ rfl _ _ rfl (F) _ (fun w hSw => (Bk.range (pre := []) (post := []) (by simpa using hSw.2) rfl)) Try.underlying39 rfl (HSF.out)) (by assumption) ?_
      try simp only [Act.put, List.setIfInBounds_toArray, List.set_cons_zero, List.set_cons_succ, List.getElem_toArray, List.getElem_cons_zero, List.getElem_cons_succ]
      rcases HE5.out with ⟨k0, n0, s0⟩ | ⟨k1, n2, n8, s0, s1⟩
      · have HR2 : Hid (R = keyO L0.h key L0.c) := by show _ = _; rw [HR.out, if_pos k0]
        refine wpAnyH_take (i := 2) (v := ?_) rfl (by kernel_rfl) (by kernel_rfl) (by kernel_rfl) (fun _ _ _ h => h) (Or.inl ⟨by rfl, ?_⟩) (by assumption) ?_
        rotate_left
        · intro w hSw
          have hcell := (k0 ▸ (HLM.out w _ hSw.1).c0)
          clear hSw
          go_simp
          try with_reducible rfl
        try simp only [Act.put, List.setIfInBounds_toArray, List.set_cons_zero, List.set_cons_succ, List.getElem_toArray, List.getElem_cons_zero, List.getElem_cons_succ]
        clear k0 n0 s0
        refine wpAnyH_ready (rs := [0]) (by kernel_rfl) (by simp) ?_
        refine AllReadyH.cons rfl (fun K hK => ?_) AllReadyH.nil
        go_simp
        (go_at_call 38; refine (openers_any wa).mono ?_; rintro e wb ⟨⟨bm, rfl, hops⟩, hbn⟩; have HOP := Lib.hid hops; have HXb := Lib.hid (HXa.out.later hbn); have HYb := Lib.hid (HYa.out.later hbn); have HBb := Lib.hid (below_then HBa.out hbn); clear hops hbn)
        refine hK.out _ _ (⟨HXb.out, HYb.out⟩) (fun hHeld => ?_)
        clear hK K
        try simp only [Act.put, List.setIfInBounds_toArray, List.set_cons_zero, List.set_cons_succ, List.getElem_toArray, List.getElem_cons_zero, List.getElem_cons_succ]
        refine wpAnyH_ready (rs := [3]) (by kernel_rfl) (by simp) ?_
        refine AllReadyH.cons rfl (fun K hK => ?_) AllReadyH.nil
        rw [if_pos (by rfl)]
        (refine wp_look 87 _ _ false rfl (.map (some bm)) (.int .i64 0) _ rfl rfl HOP.out.look0 ?_)
        refine hK.out _ _ (⟨HXb.out, HYb.out⟩) (fun hHeld => ?_)
        clear hK K
        try simp only [Act.put, List.setIfInBounds_toArray, List.set_cons_zero, List.set_cons_succ, List.getElem_toArray, List.getElem_cons_zero, List.getElem_cons_succ]
        refine wpAnyH_ready (rs := [7]) (by kernel_rfl) (by simp) ?_
        refine AllReadyH.cons rfl (fun K hK => ?_) AllReadyH.nil
        go_simp
        (go_at_call 69; refine (HBK1.out wb _).mono ?_; rintro e wd ⟨rfl, hbn⟩; have HXd := Lib.hid (HXb.out.later hbn); have HYd := Lib.hid (HYb.out.later hbn); have HBd := Lib.hid (below_then HBb.out hbn); clear hbn)
        refine hK.out _ _ (⟨HXd.out, HYd.out⟩) (fun hHeld => ?_)
        clear hK K
        try simp only [Act.put, List.setIfInBounds_toArray, List.set_cons_zero, List.set_cons_succ, List.getElem_toArray, List.getElem_cons_zero, List.getElem_cons_succ]
        refine wpAnyH_take (i := 8) (v := ?_) rfl (by kernel_rfl) (by kernel_rfl) (by kernel_rfl) (fun _ _ _ h => h) (Or.inl ⟨by rfl, ?_⟩) (by assumption) ?_
        rotate_left
        · intro w hSw
          (try dsimp only at hSw)
          go_simp
          try with_reducible rfl
        try simp only [Act.put, List.setIfInBounds_toArray, List.set_cons_zero, List.set_cons_succ, List.getElem_toArray, List.getElem_cons_zero, List.getElem_cons_succ]
        refine wpAnyH_take (i := 9) (v := ?_) rfl (by kernel_rfl) (by kernel_rfl) (by kernel_rfl) (fun _ _ _ h => h) (Or.inl ⟨by rfl, ?_⟩) (by assumption) ?_
        rotate_left
        · intro w hSw
          (try dsimp only at hSw)
          go_simp
          try with_reducible rfl
        try simp only [Act.put, List.setIfInBounds_toArray, List.set_cons_zero, List.set_cons_succ, List.getElem_toArray, List.getElem_cons_zero, List.getElem_cons_succ]
        refine wpAnyH_take (i := 10) (v := ?_) rfl (by kernel_rfl) (by kernel_rfl) (by kernel_rfl) (fun _ _ _ h => h) (Or.inl ⟨by rfl, ?_⟩) (by assumption) ?_
        rotate_left
        · intro w hSw
          (try dsimp only at hSw)
          go_simp
          try with_reducible rfl
        try simp only [Act.put, List.setIfInBounds_toArray, List.set_cons_zero, List.set_cons_succ, List.getElem_toArray, List.getElem_cons_zero, List.getElem_cons_succ]
        refine wpAnyH_take (i := 11) (v := ?_) rfl (by kernel_rfl) (by kernel_rfl) (by kernel_rfl) (fun _ _ _ h => h) (Or.inl ⟨by rfl, ?_⟩) (by assumption) ?_
        rotate_left
        · intro w hSw
          (try dsimp only at hSw)
          go_simp
          try with_reducible rfl
        try simp only [Act.put, List.setIfInBounds_toArray, List.set_cons_zero, List.set_cons_succ, List.getElem_toArray, List.getElem_cons_zero, List.getElem_cons_succ]
        refine wpAnyH_done (by kernel_rfl) ?_ _
        clear hHeld
        go_wp2_with fail
        go_ret2
        exact ⟨by rw [HR2.out]; rfl, HBd.out⟩
      · have HR2 : Hid (R = outO es L0 N zs ps) := by show _ = _; rw [HR.out, if_neg (by omega)]
        have HSS : Hid (0 ≤ L0.s ∧ L0.s < N) := ⟨s0, s1⟩
        refine wpAnyH_take (i := 2) (v := ?_) rfl (by kernel_rfl) (by kernel_rfl) (by kernel_rfl) (fun _ _ _ h => h) (Or.inl ⟨by rfl, ?_⟩) (by assumption) ?_
        rotate_left
        · intro w hSw
          have hcell := (k1 ▸ (HLM.out w _ hSw.1).c0)
          clear hSw
          go_simp
          try with_reducible rfl
        try simp only [Act.put, List.setIfInBounds_toArray, List.set_cons_zero, List.set_cons_succ, List.getElem_toArray, List.getElem_cons_zero, List.getElem_cons_succ]
        clear k1 n2 n8 s0 s1
        refine wpAnyH_ready (rs := [0]) (by kernel_rfl) (by simp) ?_
        refine AllReadyH.cons rfl (fun K hK => ?_) AllReadyH.nil
        go_simp
        (go_at_call 38; refine (openers_any wa).mono ?_; rintro e wb ⟨⟨bm, rfl, hops⟩, hbn⟩; have HOP := Lib.hid hops; have HXb := Lib.hid (HXa.out.later hbn); have HYb := Lib.hid (HYa.out.later hbn); have HBb := Lib.hid (below_then HBa.out hbn); clear hops hbn)
        refine hK.out _ _ (⟨HXb.out, HYb.out⟩) (fun hHeld => ?_)
        clear hK K
        try simp only [Act.put, List.setIfInBounds_toArray, List.set_cons_zero, List.set_cons_succ, List.getElem_toArray, List.getElem_cons_zero, List.getElem_cons_succ]
        refine wpAnyH_ready (rs := [3]) (by kernel_rfl) (by simp) ?_
        refine AllReadyH.cons rfl (fun K hK => ?_) AllReadyH.nil
        rw [if_pos (by rfl)]
        (refine wp_look 87 _ _ false rfl (.map (some bm)) (.int .i64 1) _ rfl rfl HOP.out.look1 ?_)
        refine hK.out _ _ (⟨HXb.out, HYb.out⟩) (fun hHeld => ?_)
        clear hK K
        try simp only [Act.put, List.setIfInBounds_toArray, List.set_cons_zero, List.set_cons_succ, List.getElem_toArray, List.getElem_cons_zero, List.getElem_cons_succ]
        refine wpAnyH_ready (rs := [7]) (by kernel_rfl) (by simp) ?_
        refine AllReadyH.cons rfl (fun K hK => ?_) AllReadyH.nil
        go_simp
        (go_at_call 70; refine (HBO1.out wb (HBK.out.later HBb.out) (HK0.out.later HBb.out) HSS.out.1 HSS.out.2 (by have := HCC.out; omega) HCC.out.2 (HP0.out.later HBb.out)).mono ?_; rintro e wd ⟨rfl, hbn⟩; have HXd := Lib.hid (HXb.out.later hbn); have HYd := Lib.hid (HYb.out.later hbn); have HBd := Lib.hid (below_then HBb.out hbn); clear hbn)
        refine hK.out _ _ (⟨HXd.out, HYd.out⟩) (fun hHeld => ?_)
        clear hK K
        try simp only [Act.put, List.setIfInBounds_toArray, List.set_cons_zero, List.set_cons_succ, List.getElem_toArray, List.getElem_cons_zero, List.getElem_cons_succ]
        refine wpAnyH_take (i := 8) (v := ?_) rfl (by kernel_rfl) (by kernel_rfl) (by kernel_rfl) (fun _ _ _ h => h) (Or.inl ⟨by rfl, ?_⟩) (by assumption) ?_
        rotate_left
        · intro w hSw
          (try dsimp only at hSw)
          go_simp
          try with_reducible rfl
        try simp only [Act.put, List.setIfInBounds_toArray, List.set_cons_zero, List.set_cons_succ, List.getElem_toArray, List.getElem_cons_zero, List.getElem_cons_succ]
        refine wpAnyH_take (i := 9) (v := ?_) rfl (by kernel_rfl) (by kernel_rfl) (by kernel_rfl) (fun _ _ _ h => h) (Or.inl ⟨by rfl, ?_⟩) (by assumption) ?_
        rotate_left
        · intro w hSw
          (try dsimp only at hSw)
          go_simp
          try with_reducible rfl
        try simp only [Act.put, List.setIfInBounds_toArray, List.set_cons_zero, List.set_cons_succ, List.getElem_toArray, List.getElem_cons_zero, List.getElem_cons_succ]
        refine wpAnyH_take (i := 10) (v := ?_) rfl (by kernel_rfl) (by kernel_rfl) (by kernel_rfl) (fun _ _ _ h => h) (Or.inl ⟨by rfl, ?_⟩) (by assumption) ?_
        rotate_left
        · intro w hSw
          (try dsimp only at hSw)
          go_simp
          try with_reducible rfl
        try simp only [Act.put, List.setIfInBounds_toArray, List.set_cons_zero, List.set_cons_succ, List.getElem_toArray, List.getElem_cons_zero, List.getElem_cons_succ]
        refine wpAnyH_take (i := 11) (v := ?_) rfl (by kernel_rfl) (by kernel_rfl) (by kernel_rfl) (fun _ _ _ h => h) (Or.inl ⟨by rfl, ?_⟩) (by assumption) ?_
        rotate_left
        · intro w hSw
          (try dsimp only at hSw)
          go_simp
          try with_reducible rfl
        try simp only [Act.put, List.setIfInBounds_toArray, List.set_cons_zero, List.set_cons_succ, List.getElem_toArray, List.getElem_cons_zero, List.getElem_cons_succ]
        refine wpAnyH_done (by kernel_rfl) ?_ _
        clear hHeld
        go_wp2_with fail
        go_ret2
        exact ⟨by rw [HR2.out]; rfl, HBd.out⟩
  · have h1 : (z != 0) = true := by simpa using hz0
    have HR : Hid (R = (0, z)) := by show _ = _; rw [HOO.out, if_neg hz0]
    clear hz0
    go_enter Try.func13, Try.ntmps13
    go_upto_region 1 with fail
    rw [HW.out]
    go_wp2_with (with_reducible refine wpList_load_bk rfl 26 _ rfl w.heap.size rfl L 26 HX1.out _ Try.underlying26 rfl HSL.out ?_)
    refine (HCK.out w1).mono ?_
    rintro e w2 ⟨rfl, hbn⟩
    have HB2 := Lib.hid (below_then HBB1.out hbn)
    clear hbn
    go_wp2_with fail
    go_ret2
    exact ⟨by rw [HR.out]; rfl, HB2.out⟩
end Go.Proofs.Ytbclfjdamklbpaa
