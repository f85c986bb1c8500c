/- The bytes of a signed state: the document's. -/
import Derived.Test.YthibihjblodfmaaS22
import Derived.Test.YthibihjblodfmaaS5
namespace Go.Proofs.Ythibihjblodfmaa
open Go.RowKit Go.Maps

set_option maxRecDepth 20000 in
set_option maxHeartbeats 4000000 in
theorem rstEnc_any (w : World) (t : List Int) (ht : DgOk t) (nn : Nat) (hnn : nn ≤ 1099511627776) (A B : Option Addr) (N C M D : Nat) (ps : List Int) (qs : List Pc) (hs : Sl w w.heap.size 1 A N (ps.map (.int .u8))) (hq : Sl w w.heap.size 1 B M (qs.map Pc.v)) (hp : PcsOk w qs)
    (hN : N ≤ 4096) (hM : M ≤ 8) (hpn : ∀ p ∈ qs, p.n ≤ 4096) :
    Calls Try.prog 61 #[.agg (sgC nn t (.slice A N C) (.slice B M D)).toArray] w (RetB w.heap.size (encG t nn ps (bsP qs)) w) := by
  obtain ⟨i0, hi, hi0, hi1, hi2⟩ := info_parts Try.infoU8
  obtain ⟨X, hX⟩ : ∃ X, (sgC nn t (.slice A N C) (.slice B M D)).toArray = X := ⟨_, rfl⟩
  obtain ⟨w1, hw1⟩ : ∃ w1, w.alloc (.cells X 105) = w1 := ⟨_, rfl⟩
  have hb1 : Below w.heap.size w w1 := hw1 ▸ below_new w _
  have kx : Bk w1 w.heap.size 105 (sgC nn t (.slice A N C) (.slice B M D)) := hw1 ▸ Bk.new' w _ X (by rw [← hX])
  have HW := Lib.hid hw1; have HB1 := Lib.hid hb1; have HK1 := Lib.hid kx; have HS1 := Lib.hid (hs.later hb1); have HT := Lib.hid ht
  have HQ0 := Lib.hid hq; have HP0 := Lib.hid hp; have HQL := Lib.hid hq.length; have HPN := Lib.hid hpn
  have HPL := Lib.hid hs.length
  have HG1 : Hid (w1.heap.size ≤ w1.heap.size) := Nat.le_refl _
  have HB01 : Hid (w.heap.size ≤ w1.heap.size) := hb1.size
  have hnw : IntKind.u64.wrap (nn : Int) = nn := by rw [IntKind.wrap_u64]; omega
  have hMw : IntKind.u64.wrap (M : Int) = M := by rw [IntKind.wrap_u64]; omega
  obtain ⟨x2, hx2⟩ : ∃ x, lstB t = x := ⟨_, rfl⟩
  have HX2 := Lib.hid hx2
  have hl2 : x2.length ≤ 18 := by rw [← hx2]; (have := lstB_len t; rw [ht.len] at this; omega)
  clear hx2
  obtain ⟨x3, hx3⟩ : ∃ x, numB nn = x := ⟨_, rfl⟩
  have HX3 := Lib.hid hx3
  have hl3 : x3.length ≤ 10 := by rw [← hx3]; exact numB_le _
  clear hx3
  obtain ⟨x4, hx4⟩ : ∃ x, lstB ps = x := ⟨_, rfl⟩
  have HX4 := Lib.hid hx4
  have hl4 : x4.length ≤ 4106 := by rw [← hx4]; (have := lstB_len ps; rw [HPL.out] at this; omega)
  clear hx4
  obtain ⟨x5, hx5⟩ : ∃ x, numB M = x := ⟨_, rfl⟩
  have HX5 := Lib.hid hx5
  have hl5 : x5.length ≤ 10 := by rw [← hx5]; exact numB_le _
  clear hx5
  obtain ⟨e1, he1⟩ : ∃ e, x2 ++ x3 = e := ⟨_, rfl⟩
  have HE1 := Lib.hid he1
  have hm1 : e1.length ≤ 28 := by rw [← he1, List.length_append]; omega
  clear he1
  obtain ⟨e2, he2⟩ : ∃ e, e1 ++ x4 = e := ⟨_, rfl⟩
  have HE2 := Lib.hid he2
  have hm2 : e2.length ≤ 4134 := by rw [← he2, List.length_append]; omega
  clear he2
  obtain ⟨e3, he3⟩ : ∃ e, e2 ++ x5 = e := ⟨_, rfl⟩
  have HE3 := Lib.hid he3
  have hm3 : e3.length ≤ 4144 := by rw [← he3, List.length_append]; omega
  clear he3
  have HFIN : Hid (encG t nn ps (bsP qs) = e3 ++ encS (bsP qs)) := by show _ = _; rw [← HE3.out, ← HE2.out, ← HE1.out, ← HX2.out, ← HX3.out, ← HX4.out, ← HX5.out, encG, encH, bsP_len, HQL.out]; simp only [List.append_assoc]
  have HX2' : Hid (numB 8 ++ t = x2) := by show _ = _; rw [← HX2.out]; exact lst_is ht.len
  have HX4' : Hid (numB N ++ ps = x4) := by show _ = _; rw [← HX4.out]; exact lst_is HPL.out
  rw [hX]
  clear hX hw1 hb1 kx hs hq hp ht hpn
  go_enter Try.func61, Try.ntmps61
  go_upto_region 1 with fail
  rw [HW.out]
  go_wp2_with fail
  refine (rBytes_any _ (some ⟨w.heap.size, 0, none⟩) 8 8 t (sl_rg HT.out HK1.out.lt (sg_mem HT.out HK1.out).r0) (by omega)).mono ?_
  rintro e w2 hr
  obtain ⟨v2, rfl, hown⟩ := RetB.cast hr HX2'.out
  have hb : Below w1.heap.size w1 w2 := hown.2
  obtain ⟨A2, c2, rfl⟩ := hown.form
  have HP2 := Lib.hid hown.1
  have HB2 := Lib.hid (below_then HB1.out hb)
  try have HK2 := Lib.hid (HK1.out.later hb)
  try have HJ2 := Lib.hid (HJ1.out.later hb)
  try have HS2 := Lib.hid (HS1.out.below (hb.mono HG1.out))
  try have HO2 := Lib.hid (own_keep HO1.out hb)
  have HG2 : Hid (w1.heap.size ≤ w2.heap.size) := Nat.le_trans HG1.out hb.size
  clear hown hb hr
  have HO2 := Lib.hid (own_base HP2.out (Nat.le_refl w1.heap.size))
  have hc := (sg_mem HT.out HK2.out).c8
  go_wp2_with fail
  refine (rNum_any _ nn (by show _ < _; omega)).mono ?_
  rintro e w3 hr
  obtain ⟨v3, rfl, hown⟩ := RetB.cast hr HX3.out
  have hb : Below w2.heap.size w2 w3 := hown.2
  obtain ⟨A3, c3, rfl⟩ := hown.form
  have HP3 := Lib.hid hown.1
  have HB3 := Lib.hid (below_then HB2.out hb)
  try have HK3 := Lib.hid (HK2.out.later hb)
  try have HJ3 := Lib.hid (HJ2.out.later hb)
  try have HS3 := Lib.hid (HS2.out.below (hb.mono HG2.out))
  try have HO3 := Lib.hid (own_keep HO2.out hb)
  have HG3 : Hid (w1.heap.size ≤ w3.heap.size) := Nat.le_trans HG2.out hb.size
  clear hown hb hr
  clear hc
  go_wp2_with (at_builtin; refine wpList_app _ rfl (.tmp 9) (.tmp 14) 23 rfl w1.heap.size 5 i0 (.int .u8 0) 1 1 Try.underlying23 hi hi0 hi1 hi2 rfl (by decide) _ _ _ rfl HO3.out _ _ _ _ _ rfl (Sl.of_own HP3.out) (ints_one _ _) (by unfold maxLen; omega) (by omega) HG3.out ?_; intro v4 w4 hown hg hat; refine stop_here ?_)
  refine StopD.go ?_
  have ho := own_cat hown HE1.out
  obtain ⟨A4, c4, rfl⟩ := own_form ho
  have HO4 := Lib.hid ho
  have HB4 := Lib.hid (grown_below HB3.out (own_base HO3.out HB01.out) hg (Nat.le_refl _) HB3.out.size)
  have hgb : Below w1.heap.size w3 w4 := grown_below (Below.refl _ _) HO3.out hg (Nat.le_refl _) HG3.out
  try have HK4 := Lib.hid (HK3.out.grown hg (Ne.symm (own_bk_ne HO3.out HK3.out (by decide))))
  try have HJ4 := Lib.hid (HJ3.out.grown hg (Ne.symm (own_bk_ne HO3.out HJ3.out (by decide))))
  try have HS4 := Lib.hid (HS3.out.below hgb)
  have HG4 : Hid (w1.heap.size ≤ w4.heap.size) := Nat.le_trans HG3.out hg.size
  clear hown ho hg hat hgb
  have hc := (sg_mem HT.out HK4.out).c9
  go_wp2_with fail
  refine (rBytes_any _ A N C ps (HS4.out.more HG4.out) (by omega)).mono ?_
  rintro e w5 hr
  obtain ⟨v5, rfl, hown⟩ := RetB.cast hr HX4'.out
  have hb : Below w4.heap.size w4 w5 := hown.2
  obtain ⟨A5, c5, rfl⟩ := hown.form
  have HP5 := Lib.hid hown.1
  have HB5 := Lib.hid (below_then HB4.out hb)
  try have HK5 := Lib.hid (HK4.out.later hb)
  try have HJ5 := Lib.hid (HJ4.out.later hb)
  try have HS5 := Lib.hid (HS4.out.below (hb.mono HG4.out))
  try have HO5 := Lib.hid (own_keep HO4.out hb)
  have HG5 : Hid (w1.heap.size ≤ w5.heap.size) := Nat.le_trans HG4.out hb.size
  clear hown hb hr
  clear hc
  go_wp2_with (at_builtin; refine wpList_app _ rfl (.tmp 16) (.tmp 20) 23 rfl w1.heap.size 5 i0 (.int .u8 0) 1 1 Try.underlying23 hi hi0 hi1 hi2 rfl (by decide) _ _ _ rfl HO5.out _ _ _ _ _ rfl (Sl.of_own HP5.out) (ints_one _ _) (by unfold maxLen; omega) (by omega) HG5.out ?_; intro v6 w6 hown hg hat; refine stop_here ?_)
  refine StopD.go ?_
  have ho := own_cat hown HE2.out
  obtain ⟨A6, c6, rfl⟩ := own_form ho
  have HO6 := Lib.hid ho
  have HB6 := Lib.hid (grown_below HB5.out (own_base HO5.out HB01.out) hg (Nat.le_refl _) HB5.out.size)
  have hgb : Below w1.heap.size w5 w6 := grown_below (Below.refl _ _) HO5.out hg (Nat.le_refl _) HG5.out
  try have HK6 := Lib.hid (HK5.out.grown hg (Ne.symm (own_bk_ne HO5.out HK5.out (by decide))))
  try have HJ6 := Lib.hid (HJ5.out.grown hg (Ne.symm (own_bk_ne HO5.out HJ5.out (by decide))))
  try have HS6 := Lib.hid (HS5.out.below hgb)
  have HG6 : Hid (w1.heap.size ≤ w6.heap.size) := Nat.le_trans HG5.out hg.size
  clear hown ho hg hat hgb
  have hc := (sg_mem HT.out HK6.out).c10
  go_wp2_with fail
  refine (rNum_any _ M (by show _ < _; omega)).mono ?_
  rintro e w7 hr
  obtain ⟨v7, rfl, hown⟩ := RetB.cast hr HX5.out
  have hb : Below w6.heap.size w6 w7 := hown.2
  obtain ⟨A7, c7, rfl⟩ := hown.form
  have HP7 := Lib.hid hown.1
  have HB7 := Lib.hid (below_then HB6.out hb)
  try have HK7 := Lib.hid (HK6.out.later hb)
  try have HJ7 := Lib.hid (HJ6.out.later hb)
  try have HS7 := Lib.hid (HS6.out.below (hb.mono HG6.out))
  try have HO7 := Lib.hid (own_keep HO6.out hb)
  have HG7 : Hid (w1.heap.size ≤ w7.heap.size) := Nat.le_trans HG6.out hb.size
  clear hown hb hr
  clear hc
  go_wp2_with (at_builtin; refine wpList_app _ rfl (.tmp 22) (.tmp 27) 23 rfl w1.heap.size 5 i0 (.int .u8 0) 1 1 Try.underlying23 hi hi0 hi1 hi2 rfl (by decide) _ _ _ rfl HO7.out _ _ _ _ _ rfl (Sl.of_own HP7.out) (ints_one _ _) (by unfold maxLen; omega) (by omega) HG7.out ?_; intro v8 w8 hown hg hat; refine stop_here ?_)
  refine StopD.go ?_
  have ho := own_cat hown HE3.out
  obtain ⟨A8, c8, rfl⟩ := own_form ho
  have HO8 := Lib.hid ho
  have HB8 := Lib.hid (grown_below HB7.out (own_base HO7.out HB01.out) hg (Nat.le_refl _) HB7.out.size)
  have hgb : Below w1.heap.size w7 w8 := grown_below (Below.refl _ _) HO7.out hg (Nat.le_refl _) HG7.out
  try have HK8 := Lib.hid (HK7.out.grown hg (Ne.symm (own_bk_ne HO7.out HK7.out (by decide))))
  try have HJ8 := Lib.hid (HJ7.out.grown hg (Ne.symm (own_bk_ne HO7.out HJ7.out (by decide))))
  try have HS8 := Lib.hid (HS7.out.below hgb)
  have HG8 : Hid (w1.heap.size ≤ w8.heap.size) := Nat.le_trans HG7.out hg.size
  clear hown ho hg hat hgb
  go_wp2_with fail
  go_loopw [3, 4] (fun ov iv wr => ∃ (k : Nat) (e : List Int), k ≤ M ∧ iv = .int .i64 k ∧ Hid (e = e3 ++ encS ((bsP qs).take k)) ∧ Hid (∃ A c, ov = .slice A e.length c) ∧ Hid (wr.ownsRow w1.heap.size 5 1 ov e.length (e.map (.int .u8))) ∧ Hid (Below w.heap.size w wr) ∧ Hid (Bk wr w.heap.size 105 (sgC nn t (.slice A N C) (.slice B M D))) ∧ Hid (w1.heap.size ≤ wr.heap.size)) (fun _ iv _ => M - (intOf iv).toNat)
  case atStart => exact ⟨0, e3, Nat.zero_le _, rfl, by show _ = _; simp [encS], ⟨_, _, rfl⟩, HO8.out, HB8.out, HK8.out, HG8.out⟩
  case round =>
    obtain ⟨k, e, hk, rfl, HE, HF, HO, HB, HK, HG⟩ := hrel
    obtain ⟨A10, c10, rfl⟩ := HF.out
    have HO10 := HO; have HB10 := HB; have HK10 := HK; have HG10 := HG
    obtain ⟨w10, hw10⟩ : ∃ w10, w10 = wr := ⟨_, rfl⟩
    subst hw10
    have hc := (sg_mem HT.out HK.out).c10
    by_cases hlt : k < M
    · obtain ⟨b, o, p, rfl, hpk, _, hcc⟩ := pc_at (HQ0.out.later HB.out) hlt
      have hki : (k : Int) < M := by omega
      have HPK := Lib.hid hpk
      have hpn := HPN.out p (List.mem_of_getElem? hpk)
      have HPB := Lib.hid (HP0.out.later HB.out p (List.mem_of_getElem? hpk))
      have hpl := HPB.out.length
      have hel : e.length ≤ 100000 := by
        rw [HE.out, List.length_append]
        have h1 := encS_le ((bsP qs).take k) (fun x hx => by
          obtain ⟨y, hy, rfl⟩ := List.mem_map.1 (List.mem_of_mem_take hx)
          have := HPN.out y hy; have := (HP0.out y hy).length; omega)
        have h2 : ((bsP qs).take k).length ≤ 8 := by rw [List.length_take]; omega
        omega
      obtain ⟨xz, hxz⟩ : ∃ x, numB p.n ++ p.bs = x := ⟨_, rfl⟩
      have HXz := Lib.hid hxz
      have hlz : xz.length ≤ 4106 := by rw [← hxz, List.length_append]; have := numB_le p.n; omega
      obtain ⟨ez, hez⟩ : ∃ e', e ++ xz = e' := ⟨_, rfl⟩
      have HEz := Lib.hid hez
      clear hpk hxz hez
      go_wp2_with fail
      refine (rBytes_any _ p.A p.n p.c p.bs HPB.out (by omega)).mono ?_
      rintro en w11 hr
      clear hc hcc
      obtain ⟨v11, rfl, hown⟩ := RetB.cast hr HXz.out
      have hb : Below w10.heap.size w10 w11 := hown.2
      obtain ⟨A11, c11, rfl⟩ := hown.form
      have HP11 := Lib.hid hown.1
      have HB11 := Lib.hid (below_then HB10.out hb)
      try have HK11 := Lib.hid (HK10.out.later hb)
      try have HJ11 := Lib.hid (HJ10.out.later hb)
      try have HS11 := Lib.hid (HS10.out.below (hb.mono HG10.out))
      try have HO11 := Lib.hid (own_keep HO10.out hb)
      have HG11 : Hid (w1.heap.size ≤ w11.heap.size) := Nat.le_trans HG10.out hb.size
      clear hown hb hr
      go_wp2_with (at_builtin; refine wpList_app _ rfl (.tmp 36) (.tmp 42) 23 rfl w1.heap.size 5 i0 (.int .u8 0) 1 1 Try.underlying23 hi hi0 hi1 hi2 rfl (by decide) _ _ _ rfl HO11.out _ _ _ _ _ rfl (Sl.of_own HP11.out) (ints_one _ _) (by unfold maxLen; omega) (by omega) HG11.out ?_; intro v12 w12 hown hg hat; refine stop_here ?_)
      refine StopD.go ?_
      have ho := own_cat hown HEz.out
      obtain ⟨A12, c12, rfl⟩ := own_form ho
      have HO12 := Lib.hid ho
      have HB12 := Lib.hid (grown_below HB11.out (own_base HO11.out HB01.out) hg (Nat.le_refl _) HB11.out.size)
      have hgb : Below w1.heap.size w11 w12 := grown_below (Below.refl _ _) HO11.out hg (Nat.le_refl _) HG11.out
      try have HK12 := Lib.hid (HK11.out.grown hg (Ne.symm (own_bk_ne HO11.out HK11.out (by decide))))
      try have HJ12 := Lib.hid (HJ11.out.grown hg (Ne.symm (own_bk_ne HO11.out HJ11.out (by decide))))
      try have HS12 := Lib.hid (HS11.out.below hgb)
      have HG12 : Hid (w1.heap.size ≤ w12.heap.size) := Nat.le_trans HG11.out hg.size
      clear hown ho hg hat hgb
      go_wp2_with fail
      go_roundw
      case rel => exact ⟨k + 1, ez, by omega, by go_num, by show _ = _; rw [← HEz.out, HE.out, encS_snoc (bsP_get HPK.out), ← HXz.out, lstB, hpl, List.append_assoc], ⟨_, _, rfl⟩, HO12.out, HB12.out, HK12.out, HG12.out⟩
      case measure => simp [intOf]; omega
    · have hkk : M = k := by omega
      subst hkk
      have he := HE.out
      rw [List.take_of_length_le (by rw [bsP_len, HQL.out]; omega), ← HFIN.out] at he
      have HEF := Lib.hid he
      clear he
      go_wp2_with fail
      go_ret
      exact ⟨_, rfl, own_base (by have := HO.out; rw [HEF.out] at this; rw [HEF.out]; exact this) HB01.out, HB.out⟩
end Go.Proofs.Ythibihjblodfmaa
