/- Whether locks may be, their names and bytes: the walk of LockChecks. -/
import Derived.Test.YtbclfjdamklbpaaM5
import Derived.Test.YtbclfjdamklbpaaM1
import Derived.Test.YtbclfjdamklbpaaLE
namespace Go.Proofs.Ytbclfjdamklbpaa
set_option linter.unusedSimpArgs false
set_option linter.unusedVariables false
open Go.RowKit Go.Maps

theorem cellsD_cut : ∀ (ks : List (List Int)) (m : Nat), DsOk ks → (cellsD ks).take (m * 8) = cellsD (ks.take m)
  | [], m, _ => by simp [cellsD]
  | x :: ks, 0, _ => by simp [cellsD]
  | x :: ks, m + 1, h => by
    have ih := cellsD_cut ks m (fun d hd => h d (List.mem_cons_of_mem _ hd))
    have hx := (h x List.mem_cons_self).len
    have e : cellsD (x :: ks) = x.map (.int .u8) ++ cellsD ks := by simp [cellsD]
    have e2 : cellsD ((x :: ks).take (m + 1)) = x.map (.int .u8) ++ cellsD (ks.take m) := by simp [cellsD]
    rw [e, e2, ← ih, List.take_append, List.take_of_length_le (by rw [List.length_map, hx]; omega), List.length_map, hx, show (m + 1) * 8 - 8 = m * 8 by omega]
theorem lk_natsM {L : LkT} {N : Nat} (hn : N ≤ 1000) (hc : checkL L.k L.s L.c L.u N = 0) : ∃ k s c u : Nat, L.k = k ∧ L.s = s ∧ L.c = c ∧ L.u = u ∧ k < 4611686018427387904 ∧ s < 4611686018427387904 ∧ c < 4611686018427387904 ∧ u < 4611686018427387904 := by
  obtain ⟨e1, e2, e3, e4, e5⟩ := checkL_zero hc
  refine ⟨L.k.toNat, L.s.toNat, L.c.toNat, L.u.toNat, ?_, ?_, ?_, ?_, ?_, ?_, ?_, ?_⟩
  all_goals rcases e5 with e | e <;> omega
/-- What all functions say of a lock that may be. -/
structure LkSay (w : World) (L : LkT) (A : Option Addr) (N C : Nat) (nm bs : List Int) : Prop where
  n1 : ∀ w', Below w.heap.size w w' → Calls Try.prog 18 #[.agg (lkC L (.slice A N C)).toArray] w' fun e w'' => e = .returned (.agg (dl nm).toArray) ∧ Below w'.heap.size w' w''
  no : DgOk nm
theorem rl_say (w : World) (L : LkT) (A : Option Addr) (N C : Nat) (hk : LkK w L A N) (hc : checkL L.k L.s L.c L.u N = 0) :
    (Calls Try.prog 18 #[.agg (lkC L (.slice A N C)).toArray] w fun e w'' => e = .returned (.agg (dl (nmI L.k.toNat L.h L.ks L.s.toNat L.c.toNat)).toArray) ∧ Below w.heap.size w w'') ∧
    (Calls Try.prog 35 #[.agg (lkC L (.slice A N C)).toArray] w fun e w'' => e = .returned (.agg (dl (nmI L.k.toNat L.h L.ks L.s.toNat L.c.toNat)).toArray) ∧ Below w.heap.size w w'') ∧
    (Calls Try.prog 36 #[.agg (lkC L (.slice A N C)).toArray] w (RetB w.heap.size (lkB L.k.toNat L.h L.ks L.s.toNat L.c.toNat L.u.toNat) w)) ∧
    (L.ks.length = N → decL (lkB L.k.toNat L.h L.ks L.s.toNat L.c.toNat L.u.toNat) = (L, 0)) ∧ ByOk (lkB L.k.toNat L.h L.ks L.s.toNat L.c.toNat L.u.toNat) ∧ (lkB L.k.toNat L.h L.ks L.s.toNat L.c.toNat L.u.toNat).length ≤ 19000 := by
  obtain ⟨k, s, c, u, h1, h2, h3, h4, b1, b2, b3, b4⟩ := lk_natsM hk.n hc
  obtain ⟨lk, h, ks, ls, lc, lu⟩ := L
  simp only at h1 h2 h3 h4
  subst h1; subst h2; subst h3; subst h4
  simp only [Int.toNat_natCast]
  have hkl : ks.length = N := hk.k.dgs hk.ko
  have hn := hk.n
  refine ⟨lname_any w k s c u h ks A N C hk b1 b2 b3, rlname_any w k s c u h ks A N C hk b1 b2 b3, rlbytes_any w k s c u h ks A N C hk b1 b2 b3 b4, fun hl => ?_, lkB_ok hk.h hk.ko (by omega) (by omega) (by omega) (by omega) (by omega), ?_⟩
  · rw [dec_same]
    exact dec_enc hk.h hk.ko (by rw [hl]; exact hc)
  · show (lkB k h ks s c u).length ≤ 19000
    have h1 : (lkB k h ks s c u).length ≤ 70 + 18 * ks.length := lkB_le hk.h hk.ko
    omega
set_option maxRecDepth 20000 in
set_option maxHeartbeats 8000000 in
theorem lchecks_any (w : World) (L : LkT) (A : Option Addr) (N C : Nat) (hC : N ≤ C) (hh : DgOk L.h) (hs : Sl w w.heap.size 8 A N (cellsD L.ks)) (hko : DsOk L.ks) :
    Calls Try.prog 9 #[.agg (lkC L (.slice A N C)).toArray] w fun e w' => e = .returned (.bool true) ∧ Below w.heap.size w w' := by
  have HFW := Lib.hid (fun w' => lfew_any w' L hh A N C hC)
  have hsm := hs.head (k := min N 12) (Nat.min_le_left _ _)
  obtain ⟨m, hm⟩ : ∃ m, min N 12 = m := ⟨_, rfl⟩
  rw [hm] at HFW hsm
  rw [cellsD_cut L.ks m hko] at hsm
  have hm12 : m ≤ 12 := by omega
  obtain ⟨F, hF⟩ : ∃ F : LkT, ⟨L.k, L.h, L.ks.take m, L.s, L.c, L.u⟩ = F := ⟨_, rfl⟩
  have HFK : Hid (LkK w F A m) := by rw [← hF]; exact ⟨hsm, hko.take m, hh, by show m ≤ 1000; omega⟩
  have HFL : Hid (F.ks.length = m) := HFK.out.k.dgs HFK.out.ko
  have HFC : Hid (lkC L (.slice A m C) = lkC F (.slice A m C)) := by rw [← hF]; rfl
  rw [HFC.out] at HFW
  obtain ⟨l, hl⟩ : ∃ x, lkC L (.slice A N C) = x := ⟨_, rfl⟩
  obtain ⟨X, hX⟩ : ∃ X, l.toArray = X := ⟨_, rfl⟩
  obtain ⟨z, hz⟩ : ∃ z, w.heap.size = z := ⟨_, rfl⟩
  obtain ⟨w1, hw1⟩ : ∃ w1, w.alloc (.cells X 26) = w1 := ⟨_, rfl⟩
  have hb1 : Below w.heap.size w w1 := hw1 ▸ below_new w _
  have kx : Bk w1 z 26 l := hw1 ▸ Bk.at_ w _ X hz (by rw [← hX])
  have HLZ := Lib.hid (lk_sz hh (.slice A N C)); have HLN := Lib.hid (lkC_len hh (.slice A N C))
  rw [hl] at HFW HLZ HLN ⊢
  have HW := Lib.hid hw1; have HB1 := Lib.hid hb1; have HL1 := Lib.hid kx; have HZ := Lib.hid hz; have HX := Lib.hid hX
  have HMB : Hid (m ≤ 12) := hm12
  rw [hX]
  clear hl hX hz hw1 hb1 kx hm hm12 hF hs hsm hko hh HFC hC
  have HFH : Hid (DgOk F.h) := HFK.out.h
  have HSL := Lib.hid (lk_sz HFH.out (.slice A m C)); have HSR := Lib.hid (rlk_sz HFH.out (.slice A m C))
  go_enter Try.func9, Try.ntmps9
  go_upto_region 1 with fail
  rw [HW.out, HZ.out]
  go_wp2_with (with_reducible refine wpList_load_bk rfl 26 _ rfl z rfl l 26 HL1.out _ Try.underlying26 rfl HLZ.out ?_)
  refine (HFW.out w1).mono ?_
  rintro e w2 ⟨rfl, hbn⟩
  have HL2 := Lib.hid (HL1.out.later hbn); have HB2 := Lib.hid (below_then HB1.out hbn)
  clear hbn HL1 HB1 HFW
  go_wp2_with (with_reducible refine stop_store 26 _ _ rfl ?_)
  refine StopD.go ?_
  refine wpList_store_part rfl 26 _ _ rfl z 0 (.agg (lkC F (.slice A m C)).toArray) (lkC F (.slice A m C)) rfl rfl rfl 26 [] l [] (by simpa using HL2.out) rfl (by rw [lkC_len HFH.out, HLN.out]) HSL.out (lk_one _ _ _ _) ?_
  intro w3 hp
  have HL3 : Hid (Bk w3 z 26 (lkC F (.slice A m C))) := by show Bk _ _ _ _; have := hp.bk; simpa using this
  have HB3 := Lib.hid (below_only HB2.out hp.only HB2.out.size (Nat.le_of_eq HZ.out))
  clear hp HL2 HB2 HLZ HLN
  go_wp2_with (with_reducible refine wpList_load_bk rfl 26 _ rfl z rfl (lkC F (.slice A m C)) 26 HL3.out _ Try.underlying26 rfl HSL.out ?_)
  refine (lplain_any w3 F A m C (HFK.out.later HB3.out)).mono ?_
  rintro e w4 ⟨R, rc, rfl, hown, hbn⟩
  have HL4 := Lib.hid (HL3.out.later hbn); have HB4 := Lib.hid (below_then HB3.out hbn); have HR4 := Lib.hid hown
  clear hbn hown HL3 HB3
  go_wp2_with (with_reducible refine stop_store 44 _ _ rfl ?_)
  refine StopD.go ?_
  obtain ⟨gr, hgr⟩ : ∃ q, w4.heap.size = q := ⟨_, rfl⟩
  obtain ⟨wq, hwq⟩ : ∃ w', w4.alloc (.cells #[.int .i64 0, .int .u8 0, .int .u8 0, .int .u8 0, .int .u8 0, .int .u8 0, .int .u8 0, .int .u8 0, .int .u8 0, .slice none 0 0, .int .i64 0, .int .i64 0, .int .i64 0] 44) = w' := ⟨_, rfl⟩
  have hbn : Below w4.heap.size w4 wq := hwq ▸ below_new w4 _
  have kt : Bk wq gr 44 ([] ++ (zLk' ++ [])) := by rw [← hwq]; exact Bk.at_ w4 _ _ hgr rfl
  rw [hgr, hwq]
  have HSP := Lib.hid (rlk_sz HFH.out (.slice R m rc))
  refine wpList_store_part rfl 44 _ _ rfl gr 0 (.agg (lkC F (.slice R m rc)).toArray) (lkC F (.slice R m rc)) rfl rfl rfl 44 [] zLk' [] kt rfl (by rw [lkC_len HFH.out]; rfl) HSP.out (lk_one _ _ _ _) ?_
  intro w5 hp
  have hbn : Below w4.heap.size w4 w5 := hbn.grown hp.only hbn.size (fun q' hq' => by injection hq' with hq'; omega)
  have HG5 : Hid (Bk w5 gr 44 (lkC F (.slice R m rc))) := by show Bk _ _ _ _; have := hp.bk; simpa using this
  have HL5 := Lib.hid (HL4.out.later hbn); have HB5 := Lib.hid (below_then HB4.out hbn); have HR5 := Lib.hid (own_keep HR4.out hbn)
  clear hp hbn kt hgr hwq HL4 HB4 HR4
  have hck := fun w' (Q : Option Addr) (c : Nat) => lcheck_any w' F HFH.out Q m c
  have hrk := fun w' (Q : Option Addr) (c : Nat) => rlcheck_any w' F HFH.out Q m c
  have hen := fun w' (hk : LkK w' F A m) => lenc_any w' F A m C hk
  unfold RetLe at hen
  have HSAY : Hid (∀ w' (Q : Option Addr) (cc : Nat), LkK w' F Q m → checkL F.k F.s F.c F.u m = 0 → _) := fun w' Q cc hk hc => rl_say w' F Q m cc hk hc
  have HEL : Hid (checkL F.k F.s F.c F.u m = 0 → encLk F m = lkB F.k.toNat F.h F.ks F.s.toNat F.c.toNat F.u.toNat) := fun h => if_pos h
  have HEZ : Hid (checkL F.k F.s F.c F.u m ≠ 0 → encLk F m = []) := fun h => if_neg h
  obtain ⟨y, hy⟩ : ∃ y, checkL F.k F.s F.c F.u m = y := ⟨_, rfl⟩
  rw [hy] at hck hrk hen HEL HEZ HSAY
  have HCK := Lib.hid hck; have HRK := Lib.hid hrk; have HEN := Lib.hid hen
  clear hck hrk hen hy
  go_wp2_with (with_reducible refine wpList_load_bk rfl 44 _ rfl gr rfl (lkC F (.slice R m rc)) 44 HG5.out _ Try.underlying44 rfl HSP.out ?_)
  refine (HRK.out w5 R rc).mono ?_
  rintro e w6 ⟨rfl, hbn⟩
  have HL6 := Lib.hid (HL5.out.later hbn); have HB6 := Lib.hid (below_then HB5.out hbn); have HR6 := Lib.hid (own_keep HR5.out hbn); have HG6 := Lib.hid (HG5.out.later hbn)
  clear hbn HL5 HB5 HR5 HG5
  go_wp2_with (with_reducible refine wpList_load_bk rfl 26 _ rfl z rfl (lkC F (.slice A m C)) 26 HL6.out _ Try.underlying26 rfl HSL.out ?_)
  refine (HEN.out w6 (HFK.out.later HB6.out)).mono ?_
  rintro e w7 ⟨v, rfl, hown⟩
  obtain ⟨A2, c2, rfl⟩ := hown.form
  have hbn := hown.2
  have HL7 := Lib.hid (HL6.out.later hbn); have HB7 := Lib.hid (below_then HB6.out hbn); have HR7 := Lib.hid (own_keep HR6.out hbn); have HG7 := Lib.hid (HG6.out.later hbn); have HE7 := Lib.hid hown.1
  clear hbn hown HL6 HB6 HR6 HG6
  go_wp2_with fail
  refine (ltold_any w7).mono ?_
  rintro e w8 ⟨rfl, hbn⟩
  have HL8 := Lib.hid (HL7.out.later hbn); have HB8 := Lib.hid (below_then HB7.out hbn); have HR8 := Lib.hid (own_keep HR7.out hbn); have HG8 := Lib.hid (HG7.out.later hbn); have HE8 := Lib.hid (own_keep HE7.out hbn)
  clear hbn HL7 HB7 HR7 HG7 HE7
  go_wp2_with ((with_reducible refine wpList_load_bkG ?_ 26 _ rfl z rfl (lkC F (.slice A m C)) 26 HL8.out _ Try.underlying26 rfl HSL.out ?_); rfl)
  refine (HCK.out w8 A C).mono ?_
  rintro e w9 ⟨rfl, hbn⟩
  have HL9 := Lib.hid (HL8.out.later hbn); have HB9 := Lib.hid (below_then HB8.out hbn); have HR9 := Lib.hid (own_keep HR8.out hbn); have HG9 := Lib.hid (HG8.out.later hbn); have HE9 := Lib.hid (own_keep HE8.out hbn)
  clear hbn HL8 HB8 HR8 HG8 HE8
  by_cases hy0 : y = 0
  · subst hy0
    have hel := HEL.out rfl
    obtain ⟨T, hT⟩ : ∃ T, encLk F m = T := ⟨_, rfl⟩
    obtain ⟨NM, hNM⟩ : ∃ x, nmI F.k.toNat F.h F.ks F.s.toNat F.c.toNat = x := ⟨_, rfl⟩
    have HNO : Hid (DgOk NM) := by rw [← hNM]; exact ofI_ok _
    rw [hT] at hel HE9 ⊢
    rw [hNM, ← hel] at HSAY
    have HDC : Hid (decL T = (F, 0)) := (HSAY.out w9 A C (HFK.out.later HB9.out) rfl).2.2.2.1 HFL.out
    have HTO : Hid (ByOk T ∧ T.length ≤ 19000) := (HSAY.out w9 A C (HFK.out.later HB9.out) rfl).2.2.2.2
    have HDE := ldec_any w9 A2 T.length c2 T HTO.out.1 (Sl.of_own HE9.out) (by have := HTO.out.2; omega)
    rw [HDC.out] at HDE
    have HDE := Lib.hid HDE
    clear hel hT hNM HEL HEZ HCK HRK HEN HDC
    go_wp2_with fail
    refine HDE.out.mono ?_
    rintro e w10 ⟨P, pc, rfl, hown, hko, hlh, hbn⟩
    have hown : w10.ownsRow w9.heap.size 23 8 (.slice P F.ks.length pc) F.ks.length (cellsD F.ks) := hown
    rw [show ((F, (0 : Int)) : LkT × Int).1.ks.length = m from HFL.out]
    rw [HFL.out] at hown
    have HKO : Hid (DsOk F.ks) := hko
    have HO10 := Lib.hid hown
    have HB10 := Lib.hid (below_then HB9.out hbn); have HR10 := Lib.hid (own_keep HR9.out hbn); have HE10 := Lib.hid (own_keep HE9.out hbn); have HG10 := Lib.hid (HG9.out.later hbn); have HL10 := Lib.hid (HL9.out.later hbn); clear hbn HB9 HR9 HE9 HG9 HL9
    have HSX := Lib.hid (lk_sz HFH.out (.slice P m pc))
    clear hown hko hlh HDE
    go_wp2_with (with_reducible refine stop_store 26 _ _ rfl ?_)
    refine StopD.go ?_
    obtain ⟨gx, hgl⟩ : ∃ q, w10.heap.size = q := ⟨_, rfl⟩
    obtain ⟨wq, hwq⟩ : ∃ w', w10.alloc (.cells #[.int .i64 0, .int .u8 0, .int .u8 0, .int .u8 0, .int .u8 0, .int .u8 0, .int .u8 0, .int .u8 0, .int .u8 0, .slice none 0 0, .int .i64 0, .int .i64 0, .int .i64 0] 26) = w' := ⟨_, rfl⟩
    have hbn : Below w10.heap.size w10 wq := hwq ▸ below_new w10 _
    have kt : Bk wq gx 26 ([] ++ (zLk' ++ [])) := by rw [← hwq]; exact Bk.at_ w10 _ _ hgl rfl
    rw [hgl, hwq]
    refine wpList_store_part rfl 26 _ _ rfl gx 0 (.agg (lkC F (.slice P m pc)).toArray) (lkC F (.slice P m pc)) rfl rfl rfl 26 [] zLk' [] kt rfl (Eq.symm (show (lkC F (.slice P m pc)).length = 13 from (lkC_len HFH.out _))) HSX.out (lk_one _ _ _ _) ?_
    intro w11 hp
    have hbn : Below w10.heap.size w10 w11 := hbn.grown hp.only hbn.size (fun q' hq' => by injection hq' with hq'; omega)
    have HX11 : Hid (Bk w11 gx 26 (lkC F (.slice P m pc))) := by show Bk _ _ _ _; have := hp.bk; simpa using this
    have HSZgx := Lib.hid hgl
    clear hp kt hgl hwq
    have HB11 := Lib.hid (below_then HB10.out hbn); have HR11 := Lib.hid (own_keep HR10.out hbn); have HE11 := Lib.hid (own_keep HE10.out hbn); have HO11 := Lib.hid (own_keep HO10.out hbn); have HG11 := Lib.hid (HG10.out.later hbn); have HL11 := Lib.hid (HL10.out.later hbn); clear hbn HB10 HR10 HE10 HO10 HG10 HL10
    clear HSZgx
    go_wp2_with fail
    have hdr := dg_eq_run NM NM HNO.out HNO.out
    rw [eqL_self] at hdr
    refine wp_region_held_drew (S := fun w' => Bk w' z 26 (lkC F (.slice A m C)) ∧ Bk w' gr 44 (lkC F (.slice R m rc)) ∧ Bk w' gx 26 (lkC F (.slice P m pc)) ∧ Sl w' w'.heap.size 1 A2 T.length (T.map (.int .u8))) (by kernel_rfl) ⟨Bk.drew HL11.out, Bk.drew HG11.out, Bk.drew HX11.out, Sl.of_own (w := w11.drew) (own_keep HE11.out (below_draws w11 w11.heap.size 1))⟩ (fun hHeld => ?_)
    have hbn : Below w11.heap.size w11 w11.drew := below_draws w11 w11.heap.size 1
    obtain ⟨wa, hwa⟩ : ∃ wa, w11.drew = wa := ⟨_, rfl⟩
    rw [hwa] at hbn hHeld ⊢
    have HBa := Lib.hid (below_then HB11.out hbn); have HRa := Lib.hid (own_keep HR11.out hbn); have HEa := Lib.hid (own_keep HE11.out hbn); have HOa := Lib.hid (own_keep HO11.out hbn); have HXa := Lib.hid (HX11.out.later hbn); have HGa := Lib.hid (HG11.out.later hbn); have HLa := Lib.hid (HL11.out.later hbn); clear hbn HB11 HR11 HE11 HO11 HX11 HG11 HL11
    have HTT := Lib.hid (Sl.of_own HEa.out)
    have HQa := Lib.hid (Below.refl wa.heap.size wa)
    clear hwa
    refine wpAnyH_take (i := 0) (v := .agg (List.toArray (lkC F (.slice A m C)))) rfl (by kernel_rfl) (by kernel_rfl) (by kernel_rfl) (fun _ _ _ h => h) (yieldsIf_load_mid (by rfl) _ _ rfl _ _ rfl (lkC F (.slice A m C)) _ (fun w hSw => (Bk.range (pre := []) (post := []) (by simpa using hSw.1) rfl)) Try.underlying26 rfl (HSL.out)) (by assumption) ?_
    try simp only [Act.put, List.setIfInBounds_toArray, List.set_cons_zero, List.set_cons_succ, List.getElem_toArray, List.getElem_cons_zero, List.getElem_cons_succ]
    refine wpAnyH_take (i := 2) (v := .agg (List.toArray (lkC F (.slice R m rc)))) rfl (by kernel_rfl) (by kernel_rfl) (by kernel_rfl) (fun _ _ _ h => h) (yieldsIf_load_mid (by rfl) _ _ rfl _ _ rfl (lkC F (.slice R m rc)) _ (fun w hSw => (Bk.range (pre := []) (post := []) (by simpa using hSw.2.1) rfl)) Try.underlying44 rfl (HSP.out)) (by assumption) ?_
    try simp only [Act.put, List.setIfInBounds_toArray, List.set_cons_zero, List.set_cons_succ, List.getElem_toArray, List.getElem_cons_zero, List.getElem_cons_succ]
    refine wpAnyH_ready (rs := [1]) (by kernel_rfl) (by simp) ?_
    refine AllReadyH.cons rfl (fun K hK => ?_) AllReadyH.nil
    go_simp
    (go_at_call 18; refine ((HSAY.out wa A C (HFK.out.later HBa.out) trivial).1).mono ?_; rintro e wb ⟨rfl, hbn⟩; have HBb := Lib.hid (below_then HBa.out hbn); have HRb := Lib.hid (own_keep HRa.out hbn); have HEb := Lib.hid (own_keep HEa.out hbn); have HOb := Lib.hid (own_keep HOa.out hbn); have HXb := Lib.hid (HXa.out.later hbn); have HGb := Lib.hid (HGa.out.later hbn); have HLb := Lib.hid (HLa.out.later hbn); have HQb := Lib.hid (below_then HQa.out hbn); clear hbn HBa HRa HEa HOa HXa HGa HLa)
    refine hK.out _ _ (⟨HLb.out, HGb.out, HXb.out, HTT.out.later HQb.out⟩) (fun hHeld => ?_)
    clear hK K
    try simp only [Act.put, List.setIfInBounds_toArray, List.set_cons_zero, List.set_cons_succ, List.getElem_toArray, List.getElem_cons_zero, List.getElem_cons_succ]
    refine wpAnyH_ready (rs := [3]) (by kernel_rfl) (by simp) ?_
    refine AllReadyH.cons rfl (fun K hK => ?_) AllReadyH.nil
    go_simp
    (go_at_call 35; refine ((HSAY.out wb R rc ⟨Sl.of_own HRb.out, HKO.out, HFH.out, by have := HMB.out; omega⟩ trivial).2.1).mono ?_; rintro e wc ⟨rfl, hbn⟩; have HBc := Lib.hid (below_then HBb.out hbn); have HRc := Lib.hid (own_keep HRb.out hbn); have HEc := Lib.hid (own_keep HEb.out hbn); have HOc := Lib.hid (own_keep HOb.out hbn); have HXc := Lib.hid (HXb.out.later hbn); have HGc := Lib.hid (HGb.out.later hbn); have HLc := Lib.hid (HLb.out.later hbn); have HQc := Lib.hid (below_then HQb.out hbn); clear hbn HBb HRb HEb HOb HXb HGb HLb)
    refine hK.out _ _ (⟨HLc.out, HGc.out, HXc.out, HTT.out.later HQc.out⟩) (fun hHeld => ?_)
    clear hK K
    try simp only [Act.put, List.setIfInBounds_toArray, List.set_cons_zero, List.set_cons_succ, List.getElem_toArray, List.getElem_cons_zero, List.getElem_cons_succ]
    refine wpAnyH_take (i := 4) (v := ?_) rfl (by kernel_rfl) (by kernel_rfl) (by kernel_rfl) (fun _ _ _ h => h) (Or.inl ⟨by rfl, ?_⟩) (by assumption) ?_
    rotate_left
    · intro w hSw
      (try dsimp only at hSw)
      go_simp
      try with_reducible rfl
    try simp only [Act.put, List.setIfInBounds_toArray, List.set_cons_zero, List.set_cons_succ, List.getElem_toArray, List.getElem_cons_zero, List.getElem_cons_succ]
    refine wpAnyH_take (i := 5) (v := ?_) rfl (by kernel_rfl) (by kernel_rfl) (by kernel_rfl) (fun _ _ _ h => h) (Or.inl ⟨by rfl, ?_⟩) (by assumption) ?_
    rotate_left
    · intro w hSw
      (try dsimp only at hSw)
      go_simp
      try with_reducible rfl
    try simp only [Act.put, List.setIfInBounds_toArray, List.set_cons_zero, List.set_cons_succ, List.getElem_toArray, List.getElem_cons_zero, List.getElem_cons_succ]
    refine wpAnyH_take (i := 6) (v := ?_) rfl (by kernel_rfl) (by kernel_rfl) (by kernel_rfl) (fun _ _ _ h => h) (Or.inl ⟨by rfl, ?_⟩) (by assumption) ?_
    rotate_left
    · intro w hSw
      (try dsimp only at hSw)
      go_simp
      try with_reducible rfl
    try simp only [Act.put, List.setIfInBounds_toArray, List.set_cons_zero, List.set_cons_succ, List.getElem_toArray, List.getElem_cons_zero, List.getElem_cons_succ]
    refine wpAnyH_take (i := 8) (v := .agg (List.toArray (lkC F (.slice R m rc)))) rfl (by kernel_rfl) (by kernel_rfl) (by kernel_rfl) (fun _ _ _ h => h) (yieldsIf_load_mid (by rfl) _ _ rfl _ _ rfl (lkC F (.slice R m rc)) _ (fun w hSw => (Bk.range (pre := []) (post := []) (by simpa using hSw.2.1) rfl)) Try.underlying44 rfl (HSP.out)) (by assumption) ?_
    try simp only [Act.put, List.setIfInBounds_toArray, List.set_cons_zero, List.set_cons_succ, List.getElem_toArray, List.getElem_cons_zero, List.getElem_cons_succ]
    refine wpAnyH_take (i := 7) (v := ?_) rfl (by kernel_rfl) (by kernel_rfl) (by kernel_rfl) (fun _ _ _ h => h) (Or.inl ⟨by rfl, ?_⟩) (by assumption) ?_
    rotate_left
    · intro w hSw
      have hcell := conv_any _ _ A2 T.length c2 T hSw.2.2.2
      clear hSw
      go_simp
      try with_reducible rfl
    try simp only [Act.put, List.setIfInBounds_toArray, List.set_cons_zero, List.set_cons_succ, List.getElem_toArray, List.getElem_cons_zero, List.getElem_cons_succ]
    refine wpAnyH_ready (rs := [9]) (by kernel_rfl) (by simp) ?_
    refine AllReadyH.cons rfl (fun K hK => ?_) AllReadyH.nil
    go_simp
    (go_at_call 36; refine ((HSAY.out wc R rc ⟨Sl.of_own HRc.out, HKO.out, HFH.out, by have := HMB.out; omega⟩ trivial).2.2.1).mono ?_; rintro e wd ⟨v9, rfl, hv9⟩; obtain ⟨A9, c9, rfl⟩ := hv9.form; have hbn := hv9.2; have HV9 := Lib.hid hv9.1; clear hv9; have HBd := Lib.hid (below_then HBc.out hbn); have HRd := Lib.hid (own_keep HRc.out hbn); have HEd := Lib.hid (own_keep HEc.out hbn); have HOd := Lib.hid (own_keep HOc.out hbn); have HXd := Lib.hid (HXc.out.later hbn); have HGd := Lib.hid (HGc.out.later hbn); have HLd := Lib.hid (HLc.out.later hbn); have HQd := Lib.hid (below_then HQc.out hbn); clear hbn HBc HRc HEc HOc HXc HGc HLc)
    refine hK.out _ _ (⟨HLd.out, HGd.out, HXd.out, HTT.out.later HQd.out⟩) (fun hHeld => ?_)
    clear hK K
    try simp only [Act.put, List.setIfInBounds_toArray, List.set_cons_zero, List.set_cons_succ, List.getElem_toArray, List.getElem_cons_zero, List.getElem_cons_succ]
    refine wpAnyH_ready (rs := [10]) (by kernel_rfl) (by simp) ?_
    refine AllReadyH.cons rfl (fun K hK => ?_) AllReadyH.nil
    rw [if_pos (by rfl)]
    refine wp_conv 56 9 _ rfl (.slice A9 T.length c9) (.string (strOf T)) rfl wd (conv_any wd _ A9 T.length c9 T (Sl.of_own HV9.out)) ?_
    refine hK.out _ _ (⟨HLd.out, HGd.out, HXd.out, HTT.out.later HQd.out⟩) (fun hHeld => ?_)
    clear hK K
    try simp only [Act.put, List.setIfInBounds_toArray, List.set_cons_zero, List.set_cons_succ, List.getElem_toArray, List.getElem_cons_zero, List.getElem_cons_succ]
    refine wpAnyH_take (i := 11) (v := ?_) rfl (by kernel_rfl) (by kernel_rfl) (by kernel_rfl) (fun _ _ _ h => h) (Or.inl ⟨by rfl, ?_⟩) (by assumption) ?_
    rotate_left
    · intro w hSw
      (try dsimp only at hSw)
      go_simp
      try with_reducible rfl
    try simp only [Act.put, List.setIfInBounds_toArray, List.set_cons_zero, List.set_cons_succ, List.getElem_toArray, List.getElem_cons_zero, List.getElem_cons_succ]
    refine wpAnyH_take (i := 12) (v := ?_) rfl (by kernel_rfl) (by kernel_rfl) (by kernel_rfl) (fun _ _ _ h => h) (Or.inl ⟨by rfl, ?_⟩) (by assumption) ?_
    rotate_left
    · intro w hSw
      (try dsimp only at hSw)
      go_simp
      try with_reducible rfl
    try simp only [Act.put, List.setIfInBounds_toArray, List.set_cons_zero, List.set_cons_succ, List.getElem_toArray, List.getElem_cons_zero, List.getElem_cons_succ]
    refine wpAnyH_take (i := 13) (v := ?_) rfl (by kernel_rfl) (by kernel_rfl) (by kernel_rfl) (fun _ _ _ h => h) (Or.inl ⟨by rfl, ?_⟩) (by assumption) ?_
    rotate_left
    · intro w hSw
      (try dsimp only at hSw)
      go_simp
      try with_reducible rfl
    try simp only [Act.put, List.setIfInBounds_toArray, List.set_cons_zero, List.set_cons_succ, List.getElem_toArray, List.getElem_cons_zero, List.getElem_cons_succ]
    refine wpAnyH_take (i := 14) (v := ?_) rfl (by kernel_rfl) (by kernel_rfl) (by kernel_rfl) (fun _ _ _ h => h) (Or.inl ⟨by rfl, ?_⟩) (by assumption) ?_
    rotate_left
    · intro w hSw
      (try dsimp only at hSw)
      go_simp
      try with_reducible rfl
    try simp only [Act.put, List.setIfInBounds_toArray, List.set_cons_zero, List.set_cons_succ, List.getElem_toArray, List.getElem_cons_zero, List.getElem_cons_succ]
    refine wpAnyH_take (i := 15) (v := ?_) rfl (by kernel_rfl) (by kernel_rfl) (by kernel_rfl) (fun _ _ _ h => h) (Or.inl ⟨by rfl, ?_⟩) (by assumption) ?_
    rotate_left
    · intro w hSw
      (try dsimp only at hSw)
      go_simp
      try with_reducible rfl
    try simp only [Act.put, List.setIfInBounds_toArray, List.set_cons_zero, List.set_cons_succ, List.getElem_toArray, List.getElem_cons_zero, List.getElem_cons_succ]
    refine wpAnyH_take (i := 16) (v := ?_) rfl (by kernel_rfl) (by kernel_rfl) (by kernel_rfl) (fun _ _ _ h => h) (Or.inl ⟨by rfl, ?_⟩) (by assumption) ?_
    rotate_left
    · intro w hSw
      (try dsimp only at hSw)
      go_simp
      try with_reducible rfl
    try simp only [Act.put, List.setIfInBounds_toArray, List.set_cons_zero, List.set_cons_succ, List.getElem_toArray, List.getElem_cons_zero, List.getElem_cons_succ]
    refine wpAnyH_take (i := 17) (v := ?_) rfl (by kernel_rfl) (by kernel_rfl) (by kernel_rfl) (fun _ _ _ h => h) (Or.inl ⟨by rfl, ?_⟩) (by assumption) ?_
    rotate_left
    · intro w hSw
      (try dsimp only at hSw)
      go_simp
      try with_reducible rfl
    try simp only [Act.put, List.setIfInBounds_toArray, List.set_cons_zero, List.set_cons_succ, List.getElem_toArray, List.getElem_cons_zero, List.getElem_cons_succ]
    refine wpAnyH_take (i := 18) (v := .agg (List.toArray (lkC F (.slice P m pc)))) rfl (by kernel_rfl) (by kernel_rfl) (by kernel_rfl) (fun _ _ _ h => h) (yieldsIf_load_mid (by rfl) _ _ rfl _ _ rfl (lkC F (.slice P m pc)) _ (fun w hSw => (Bk.range (pre := []) (post := []) (by simpa using hSw.2.2.1) rfl)) Try.underlying26 rfl (HSX.out)) (by assumption) ?_
    try simp only [Act.put, List.setIfInBounds_toArray, List.set_cons_zero, List.set_cons_succ, List.getElem_toArray, List.getElem_cons_zero, List.getElem_cons_succ]
    refine wpAnyH_take (i := 20) (v := .agg (List.toArray (lkC F (.slice R m rc)))) rfl (by kernel_rfl) (by kernel_rfl) (by kernel_rfl) (fun _ _ _ h => h) (yieldsIf_load_mid (by rfl) _ _ rfl _ _ rfl (lkC F (.slice R m rc)) _ (fun w hSw => (Bk.range (pre := []) (post := []) (by simpa using hSw.2.1) rfl)) Try.underlying44 rfl (HSP.out)) (by assumption) ?_
    try simp only [Act.put, List.setIfInBounds_toArray, List.set_cons_zero, List.set_cons_succ, List.getElem_toArray, List.getElem_cons_zero, List.getElem_cons_succ]
    refine wpAnyH_ready (rs := [19]) (by kernel_rfl) (by simp) ?_
    refine AllReadyH.cons rfl (fun K hK => ?_) AllReadyH.nil
    go_simp
    (go_at_call 16; refine (lplain_any wd F P m pc ⟨Sl.of_own HOd.out, HKO.out, HFH.out, by have := HMB.out; omega⟩).mono ?_; rintro e we ⟨PP, ppc, rfl, hpl, hbn⟩; have HPe := Lib.hid hpl; clear hpl; have HBe := Lib.hid (below_then HBd.out hbn); have HRe := Lib.hid (own_keep HRd.out hbn); have HEe := Lib.hid (own_keep HEd.out hbn); have HOe := Lib.hid (own_keep HOd.out hbn); have HXe := Lib.hid (HXd.out.later hbn); have HGe := Lib.hid (HGd.out.later hbn); have HLe := Lib.hid (HLd.out.later hbn); have HQe := Lib.hid (below_then HQd.out hbn); clear hbn HBd HRd HEd HOd HXd HGd HLd)
    refine hK.out _ _ (⟨HLe.out, HGe.out, HXe.out, HTT.out.later HQe.out⟩) (fun hHeld => ?_)
    clear hK K
    try simp only [Act.put, List.setIfInBounds_toArray, List.set_cons_zero, List.set_cons_succ, List.getElem_toArray, List.getElem_cons_zero, List.getElem_cons_succ]
    refine wpAnyH_ready (rs := [21]) (by kernel_rfl) (by simp) ?_
    refine AllReadyH.cons rfl (fun K hK => ?_) AllReadyH.nil
    go_simp
    (go_at_call 30; refine (rlsame_any we F PP R m ppc rc ⟨Sl.of_own HPe.out, HKO.out, HFH.out, by have := HMB.out; omega⟩ ⟨Sl.of_own HRe.out, HKO.out, HFH.out, by have := HMB.out; omega⟩).mono ?_; rintro e wf ⟨rfl, hbn⟩; have HBf := Lib.hid (below_then HBe.out hbn); have HRf := Lib.hid (own_keep HRe.out hbn); have HEf := Lib.hid (own_keep HEe.out hbn); have HOf := Lib.hid (own_keep HOe.out hbn); have HXf := Lib.hid (HXe.out.later hbn); have HGf := Lib.hid (HGe.out.later hbn); have HLf := Lib.hid (HLe.out.later hbn); have HQf := Lib.hid (below_then HQe.out hbn); clear hbn HBe HRe HEe HOe HXe HGe HLe)
    refine hK.out _ _ (⟨HLf.out, HGf.out, HXf.out, HTT.out.later HQf.out⟩) (fun hHeld => ?_)
    clear hK K
    try simp only [Act.put, List.setIfInBounds_toArray, List.set_cons_zero, List.set_cons_succ, List.getElem_toArray, List.getElem_cons_zero, List.getElem_cons_succ]
    refine wpAnyH_take (i := 22) (v := ?_) rfl (by kernel_rfl) (by kernel_rfl) (by kernel_rfl) (fun _ _ _ h => h) (Or.inl ⟨by rfl, ?_⟩) (by assumption) ?_
    rotate_left
    · intro w hSw
      (try dsimp only at hSw)
      go_simp
      try with_reducible rfl
    try simp only [Act.put, List.setIfInBounds_toArray, List.set_cons_zero, List.set_cons_succ, List.getElem_toArray, List.getElem_cons_zero, List.getElem_cons_succ]
    refine wpAnyH_take (i := 23) (v := ?_) rfl (by kernel_rfl) (by kernel_rfl) (by kernel_rfl) (fun _ _ _ h => h) (Or.inl ⟨by rfl, ?_⟩) (by assumption) ?_
    rotate_left
    · intro w hSw
      (try dsimp only at hSw)
      go_simp
      try with_reducible rfl
    try simp only [Act.put, List.setIfInBounds_toArray, List.set_cons_zero, List.set_cons_succ, List.getElem_toArray, List.getElem_cons_zero, List.getElem_cons_succ]
    refine wpAnyH_take (i := 24) (v := .agg (List.toArray (lkC F (.slice P m pc)))) rfl (by kernel_rfl) (by kernel_rfl) (by kernel_rfl) (fun _ _ _ h => h) (yieldsIf_load_mid (by rfl) _ _ rfl _ _ rfl (lkC F (.slice P m pc)) _ (fun w hSw => (Bk.range (pre := []) (post := []) (by simpa using hSw.2.2.1) rfl)) Try.underlying26 rfl (HSX.out)) (by assumption) ?_
    try simp only [Act.put, List.setIfInBounds_toArray, List.set_cons_zero, List.set_cons_succ, List.getElem_toArray, List.getElem_cons_zero, List.getElem_cons_succ]
    refine wpAnyH_take (i := 25) (v := .agg (List.toArray (lkC F (.slice A m C)))) rfl (by kernel_rfl) (by kernel_rfl) (by kernel_rfl) (fun _ _ _ h => h) (yieldsIf_load_mid (by rfl) _ _ rfl _ _ rfl (lkC F (.slice A m C)) _ (fun w hSw => (Bk.range (pre := []) (post := []) (by simpa using hSw.1) rfl)) Try.underlying26 rfl (HSL.out)) (by assumption) ?_
    try simp only [Act.put, List.setIfInBounds_toArray, List.set_cons_zero, List.set_cons_succ, List.getElem_toArray, List.getElem_cons_zero, List.getElem_cons_succ]
    refine wpAnyH_ready (rs := [26]) (by kernel_rfl) (by simp) ?_
    refine AllReadyH.cons rfl (fun K hK => ?_) AllReadyH.nil
    go_simp
    (go_at_call 37; refine (lsame_any wf F P A m pc C ⟨Sl.of_own HOf.out, HKO.out, HFH.out, by have := HMB.out; omega⟩ (HFK.out.later HBf.out)).mono ?_; rintro e wg ⟨rfl, hbn⟩; have HBg := Lib.hid (below_then HBf.out hbn); have HRg := Lib.hid (own_keep HRf.out hbn); have HEg := Lib.hid (own_keep HEf.out hbn); have HOg := Lib.hid (own_keep HOf.out hbn); have HXg := Lib.hid (HXf.out.later hbn); have HGg := Lib.hid (HGf.out.later hbn); have HLg := Lib.hid (HLf.out.later hbn); have HQg := Lib.hid (below_then HQf.out hbn); clear hbn HBf HRf HEf HOf HXf HGf HLf)
    refine hK.out _ _ (⟨HLg.out, HGg.out, HXg.out, HTT.out.later HQg.out⟩) (fun hHeld => ?_)
    clear hK K
    try simp only [Act.put, List.setIfInBounds_toArray, List.set_cons_zero, List.set_cons_succ, List.getElem_toArray, List.getElem_cons_zero, List.getElem_cons_succ]
    refine wpAnyH_take (i := 27) (v := ?_) rfl (by kernel_rfl) (by kernel_rfl) (by kernel_rfl) (fun _ _ _ h => h) (Or.inl ⟨by rfl, ?_⟩) (by assumption) ?_
    rotate_left
    · intro w hSw
      (try dsimp only at hSw)
      go_simp
      try with_reducible rfl
    try simp only [Act.put, List.setIfInBounds_toArray, List.set_cons_zero, List.set_cons_succ, List.getElem_toArray, List.getElem_cons_zero, List.getElem_cons_succ]
    refine wpAnyH_take (i := 28) (v := ?_) rfl (by kernel_rfl) (by kernel_rfl) (by kernel_rfl) (fun _ _ _ h => h) (Or.inl ⟨by rfl, ?_⟩) (by assumption) ?_
    rotate_left
    · intro w hSw
      (try dsimp only at hSw)
      go_simp
      try with_reducible rfl
    try simp only [Act.put, List.setIfInBounds_toArray, List.set_cons_zero, List.set_cons_succ, List.getElem_toArray, List.getElem_cons_zero, List.getElem_cons_succ]
    refine wpAnyH_done (by kernel_rfl) ?_ _
    clear hHeld
    go_wp2_with fail
    go_ret
    exact ⟨rfl, HBg.out⟩
  · have hyn : (y != 0) = true := by simpa using hy0
    have hez := HEZ.out hy0
    rw [hez]
    clear hy0 hez
    go_wp2_with fail
    go_ret
    exact ⟨rfl, HB9.out⟩
end Go.Proofs.Ytbclfjdamklbpaa
