/- A transaction's bytes and name. -/
import Derived.Test.YtbpmomedhdmloaaDoorBC
namespace Go.Proofs.YtbpmomedhdmloaaDoor
set_option linter.unusedSimpArgs false
set_option linter.unusedVariables false
open Go.RowKit Go.Maps

/-- A number as the program's conversion has it. -/
def u64N (n : Int) : Nat := (IntKind.u64.wrap n).toNat
theorem u64N_eq (n : Int) : IntKind.u64.wrap n = ((u64N n : Nat) : Int) := by unfold u64N; have := wrapU_nonneg n; omega
theorem u64N_lt (n : Int) : u64N n < 18446744073709551616 := by unfold u64N; have := wrapU_nonneg n; omega
def unsB (t : TxT) : List Int := numB (u64N t.k) ++ numB (numN t.f) ++ numB (u64N t.n) ++ numB (u64N t.e) ++ lstB t.b
def txB (t : TxT) : List Int := unsB t ++ lstB t.s
theorem lstB_lenb (x : List Int) : (lstB x).length ≤ x.length + 10 := by
  have := numB_le x.length
  simp only [lstB, List.length_append]; omega
theorem unsB_len (t : TxT) : (unsB t).length ≤ t.b.length + 50 := by
  have h1 := numB_le (u64N t.k); have h2 := numB_le (numN t.f); have h3 := numB_le (u64N t.n); have h4 := numB_le (u64N t.e); have h5 := lstB_lenb t.b
  simp only [unsB, List.length_append]; omega
theorem txB_len (t : TxT) : (txB t).length ≤ t.b.length + t.s.length + 60 := by
  have h1 := unsB_len t; have h2 := lstB_lenb t.s
  simp only [txB, List.length_append]; omega
theorem txB_ok {t : TxT} (h : TxOk t) (h1 : t.b.length ≤ 4294967296) (h2 : t.s.length ≤ 4294967296) : ByOk (txB t) := by
  have a1 := numB_ok (u64N_lt t.k); have a2 := numB_ok (numN_lt h.f); have a3 := numB_ok (u64N_lt t.n); have a4 := numB_ok (u64N_lt t.e)
  exact byOk_app (byOk_app (byOk_app (byOk_app (byOk_app a1 a2) a3) a4) (lstB_ok h.b h1)) (lstB_ok h.s h2)
set_option maxRecDepth 20000 in
set_option maxHeartbeats 4000000 in
theorem unsigned_any (w : World) (cs : List Value) (t : TxT) (ht : Txg w cs t) (hl : t.b.length ≤ 1073741824) :
    Calls Tryd.prog 69 #[.agg cs.toArray] w (RetB w.heap.size (unsB t) w) := by
  obtain ⟨⟨A, B, N, C, M, D, rfl, s1, s2, _, _⟩, ok⟩ := ht
  obtain ⟨l, hl0⟩ : ∃ x, txC t (.slice A N C) (.slice B M D) = x := ⟨_, rfl⟩
  obtain ⟨X, hX⟩ : ∃ X, l.toArray = X := ⟨_, rfl⟩
  obtain ⟨z, hz⟩ : ∃ z, w.heap.size = z := ⟨_, rfl⟩
  obtain ⟨w1, hw1⟩ : ∃ w1, w.alloc (.cells X 47) = w1 := ⟨_, rfl⟩
  have hb1 : Below w.heap.size w w1 := hw1 ▸ below_new w _
  have kx : Bk w1 z 47 l := hw1 ▸ Bk.at_ w _ X hz (by rw [← hX])
  have HM : Hid (∀ w' g', Bk w' g' 47 l → TxM w' g' 0 t (.slice A N C) (.slice B M D)) := fun w' g' k => by rw [← hl0] at k; exact tx_mem ok.f k
  have e1 := s1.length
  have HW := Lib.hid hw1; have HB1 := Lib.hid hb1; have HZ := Lib.hid hz; have HK1 := Lib.hid kx; have HOK := Lib.hid ok; have HS1 := Lib.hid (s1.later hb1)
  have hu1 := u64N_eq t.k; have hu2 := u64N_eq t.n; have hu3 := u64N_eq t.e
  rw [hl0, hX]
  have h10 := (HM.out _ _ HK1.out).c10
  simp only [Nat.zero_add] at h10
  obtain ⟨t1, ht1⟩ : ∃ x, numB (u64N t.k) = x := ⟨_, rfl⟩
  have HT1 := Lib.hid ht1
  have HL1 : Hid (t1.length ≤ 10) := by show _ ≤ 10; rw [← ht1]; exact numB_le _
  have hpn := putNum_any w1 none 0 0 [] Sl.nil (u64N t.k) (u64N_lt t.k) (by omega)
  rw [List.nil_append, ht1] at hpn
  have HPN := Lib.hid hpn
  clear hl0 hX hw1 hb1 kx hz s1 s2 ok ht1 hpn
  go_enter Tryd.func69, Tryd.ntmps69
  go_upto_region 1 with fail
  rw [HW.out, HZ.out]
  go_wp2_with fail
  refine HPN.out.mono ?_
  rintro e w2 ⟨v2, rfl, hown⟩
  obtain ⟨A2, c2, rfl⟩ := hown.form
  have HK2 := Lib.hid (HK1.out.later hown.2); have HB2 := Lib.hid (below_then HB1.out hown.2); have HO2 := Lib.hid hown; have HS2 := Lib.hid (HS1.out.later hown.2)
  clear hown HK1 HB1 HPN HS1 h10
  go_wp2_with (with_reducible refine wpList_load_mid rfl 28 _ rfl z 0 rfl (dl t.f) _ (HM.out _ _ HK2.out).r0 Tryd.underlying28 rfl (hdg_size _ HOK.out.f) ?_)
  refine (num_anyb HOK.out.f w2).mono ?_
  rintro e w3 ⟨rfl, hbn⟩
  have HK3 := Lib.hid (HK2.out.later hbn); have HB3 := Lib.hid (below_then HB2.out hbn); have HS3 := Lib.hid (HS2.out.later hbn)
  have HO3 : Hid (OwnB w1.heap.size t1 w1 (.slice A2 t1.length c2) w3) := ⟨own_keep HO2.out.1 hbn, below_then HO2.out.2 hbn⟩
  obtain ⟨A3, hA3⟩ : ∃ A, A2 = A := ⟨_, rfl⟩
  obtain ⟨c3, hc3⟩ : ∃ A, c2 = A := ⟨_, rfl⟩
  subst hA3 hc3
  clear hbn HK2 HB2 HO2 HS2
  go_wp2_with fail
  refine (putNum_any w3 A2 t1.length c2 t1 (Sl.of_own HO3.out.1) (numN t.f) (numN_lt HOK.out.f) (by have := HL1.out; omega)).mono ?_
  rintro e w4 ⟨v4, rfl, hown⟩
  obtain ⟨t2, ht⟩ : ∃ x, t1 ++ numB (numN t.f) = x := ⟨_, rfl⟩
  have HT2 := Lib.hid ht
  have HL2 : Hid (t2.length ≤ 20) := by show _ ≤ 20; rw [← ht, List.length_append]; have := numB_le (numN t.f); have := HL1.out; omega
  rw [ht] at hown
  obtain ⟨A4, c4, rfl⟩ := hown.form
  have HK4 := Lib.hid (HK3.out.later hown.2); have HB4 := Lib.hid (below_then HB3.out hown.2); have HO4 := Lib.hid hown; have HS4 := Lib.hid (HS3.out.later hown.2)
  have h8 := (HM.out _ _ HK4.out).c8
  simp only [Nat.zero_add] at h8
  clear hown ht HK3 HB3 HO3 HS3
  go_wp2_with fail
  refine (putNum_any w4 A4 t2.length c4 t2 (Sl.of_own HO4.out.1) (u64N t.n) (u64N_lt t.n) (by have := HL2.out; omega)).mono ?_
  rintro e w5 ⟨v5, rfl, hown⟩
  obtain ⟨t3, ht⟩ : ∃ x, t2 ++ numB (u64N t.n) = x := ⟨_, rfl⟩
  have HT3 := Lib.hid ht
  have HL3 : Hid (t3.length ≤ 30) := by show _ ≤ 30; rw [← ht, List.length_append]; have := numB_le (u64N t.n); have := HL2.out; omega
  rw [ht] at hown
  obtain ⟨A5, c5, rfl⟩ := hown.form
  have HK5 := Lib.hid (HK4.out.later hown.2); have HB5 := Lib.hid (below_then HB4.out hown.2); have HO5 := Lib.hid hown; have HS5 := Lib.hid (HS4.out.later hown.2)
  clear hown ht HK4 HB4 HO4 HS4
  have h9 := (HM.out _ _ HK5.out).c9
  simp only [Nat.zero_add] at h9
  clear h8
  go_wp2_with fail
  refine (putNum_any w5 A5 t3.length c5 t3 (Sl.of_own HO5.out.1) (u64N t.e) (u64N_lt t.e) (by have := HL3.out; omega)).mono ?_
  rintro e w6 ⟨v6, rfl, hown⟩
  obtain ⟨t4, ht⟩ : ∃ x, t3 ++ numB (u64N t.e) = x := ⟨_, rfl⟩
  have HT4 := Lib.hid ht
  have HL4 : Hid (t4.length ≤ 40) := by show _ ≤ 40; rw [← ht, List.length_append]; have := numB_le (u64N t.e); have := HL3.out; omega
  rw [ht] at hown
  obtain ⟨A6, c6, rfl⟩ := hown.form
  have HK6 := Lib.hid (HK5.out.later hown.2); have HB6 := Lib.hid (below_then HB5.out hown.2); have HO6 := Lib.hid hown; have HS6 := Lib.hid (HS5.out.later hown.2)
  clear hown ht HK5 HB5 HO5 HS5
  have h11 := (HM.out _ _ HK6.out).c11
  simp only [Nat.zero_add] at h11
  clear h9
  go_wp2_with fail
  refine (putBytes_any w6 A6 A t4.length c6 N C t4 t.b (Sl.of_own HO6.out.1) HS6.out (by have := HL4.out; omega) (by omega)).mono ?_
  rintro e w7 ⟨v7, rfl, hown⟩
  obtain ⟨t5, ht⟩ : ∃ x, t4 ++ (numB t.b.length ++ t.b) = x := ⟨_, rfl⟩
  have HT5 : Hid (t5 = unsB t) := by
    show _ = _
    rw [← ht, ← HT4.out, ← HT3.out, ← HT2.out, ← HT1.out]; rfl
  rw [← e1, ht, HT5.out] at hown
  have HB7 := Lib.hid (below_then HB6.out hown.2); have HO7 := Lib.hid hown
  obtain ⟨U, hU⟩ : ∃ U, unsB t = U := ⟨_, rfl⟩
  have HUE := Lib.hid hU
  rw [hU] at HO7 ⊢
  clear hown ht hU HT5
  go_wp2_with fail
  go_ret
  rw [HUE.out]
  exact ⟨_, rfl, own_base HO7.out.1 HB6.out.size, HB7.out⟩
set_option maxRecDepth 20000 in
set_option maxHeartbeats 4000000 in
theorem txBytes_any (w : World) (cs : List Value) (t : TxT) (ht : Txg w cs t) (hl : t.b.length ≤ 1073741000) (hl2 : t.s.length ≤ 1073741000) :
    Calls Tryd.prog 45 #[.agg cs.toArray] w (RetB w.heap.size (txB t) w) := by
  have HUN := Lib.hid (fun w' (h : Txg w' cs t) => unsigned_any w' cs t h (by omega))
  have HG0 := Lib.hid ht
  have HSZ := Lib.hid ht.size
  obtain ⟨⟨A, B, N, C, M, D, rfl, s1, s2, _, _⟩, ok⟩ := ht
  obtain ⟨l, hl0⟩ : ∃ x, txC t (.slice A N C) (.slice B M D) = x := ⟨_, rfl⟩
  obtain ⟨X, hX⟩ : ∃ X, l.toArray = X := ⟨_, rfl⟩
  obtain ⟨z, hz⟩ : ∃ z, w.heap.size = z := ⟨_, rfl⟩
  obtain ⟨w1, hw1⟩ : ∃ w1, w.alloc (.cells X 47) = w1 := ⟨_, rfl⟩
  have hb1 : Below w.heap.size w w1 := hw1 ▸ below_new w _
  have kx : Bk w1 z 47 l := hw1 ▸ Bk.at_ w _ X hz (by rw [← hX])
  have HM : Hid (∀ w' g', Bk w' g' 47 l → TxM w' g' 0 t (.slice A N C) (.slice B M D)) := fun w' g' k => by rw [← hl0] at k; exact tx_mem ok.f k
  have e1 := s1.length; have e2 := s2.length
  have HUL := Lib.hid (unsB_len t)
  have HW := Lib.hid hw1; have HB1 := Lib.hid hb1; have HZ := Lib.hid hz; have HK1 := Lib.hid kx; have HS1 := Lib.hid (s2.later hb1); have HG1 := Lib.hid (HG0.out.later hb1); have HXE := Lib.hid hX
  rw [hl0] at HUN HSZ HG1 ⊢
  rw [hX] at HUN ⊢
  clear hl0 hX hw1 hb1 kx hz s1 s2 ok HG0
  go_enter Tryd.func45, Tryd.ntmps45
  go_upto_region 1 with fail
  rw [HW.out, HZ.out]
  go_wp2_with fail
  refine wp_region_held_drew (S := fun w' => Bk w' z 47 l) (by kernel_rfl) (Bk.drew HK1.out) (fun hHeld => ?_)
  have hbd : Below w1.heap.size w1 w1.drew := below_draws w1 w1.heap.size 1
  obtain ⟨wa, hwa⟩ : ∃ wa, w1.drew = wa := ⟨_, rfl⟩
  rw [hwa] at hbd hHeld ⊢
  have HKa := Lib.hid (HK1.out.later hbd); have HBa := Lib.hid (below_then HB1.out hbd); have HSa := Lib.hid (HS1.out.later hbd); have HGa := Lib.hid (HG1.out.later hbd)
  clear hwa hbd HK1 HB1 HS1 HG1
  refine wpAnyH_take (i := 0) (v := .agg (List.toArray (l))) rfl (by kernel_rfl) (by kernel_rfl) (by kernel_rfl) (fun _ _ _ h => h) (yieldsIf_load_mid (by rfl) _ _ rfl _ _ rfl (l) _ (fun w hSw => (Bk.range (pre := []) (post := []) (by simpa using hSw) rfl)) Tryd.underlying47 rfl (HSZ.out)) (by assumption) ?_
  try simp only [Act.put, List.setIfInBounds_toArray, List.set_cons_zero, List.set_cons_succ, List.getElem_toArray, List.getElem_cons_zero, List.getElem_cons_succ]
  refine wpAnyH_take (i := 2) (v := ?_) rfl (by kernel_rfl) (by kernel_rfl) (by kernel_rfl) (fun _ _ _ h => h) (Or.inl ⟨by rfl, ?_⟩) (by assumption) ?_
  rotate_left
  · intro w hSw
    (try dsimp only at hSw)
    go_simp
    try with_reducible rfl
  try simp only [Act.put, List.setIfInBounds_toArray, List.set_cons_zero, List.set_cons_succ, List.getElem_toArray, List.getElem_cons_zero, List.getElem_cons_succ]
  refine wpAnyH_take (i := 3) (v := ?_) rfl (by kernel_rfl) (by kernel_rfl) (by kernel_rfl) (fun _ _ _ h => h) (Or.inl ⟨by rfl, ?_⟩) (by assumption) ?_
  rotate_left
  · intro w hSw
    have hcell := (by have := (HM.out _ _ hSw).c12; simpa using this)
    clear hSw
    go_simp
    try with_reducible rfl
  try simp only [Act.put, List.setIfInBounds_toArray, List.set_cons_zero, List.set_cons_succ, List.getElem_toArray, List.getElem_cons_zero, List.getElem_cons_succ]
  obtain ⟨U, hU⟩ : ∃ U, unsB t = U := ⟨_, rfl⟩
  have HTB : Hid (U ++ (numB M ++ t.s) = txB t) := by show _ = _; rw [← hU, ← e2]; rfl
  rw [hU] at HUN HUL
  clear hU
  refine wpAnyH_ready (rs := [1]) (by kernel_rfl) (by simp) ?_
  refine AllReadyH.cons rfl (fun K hK => ?_) AllReadyH.nil
  go_simp
  (rw [HXE.out]; refine (HUN.out wa HGa.out).mono ?_; rintro e wb ⟨v2, rfl, hown⟩; obtain ⟨A2, c2, rfl⟩ := hown.form; have HO2 := Lib.hid (Sl.of_own hown.1); have HKb := Lib.hid (HKa.out.later hown.2); have HBb := Lib.hid (below_then HBa.out hown.2); have HSb := Lib.hid (HSa.out.later hown.2); clear hown)
  refine hK.out _ _ (HKb.out) (fun hHeld => ?_)
  clear hK K
  try simp only [Act.put, List.setIfInBounds_toArray, List.set_cons_zero, List.set_cons_succ, List.getElem_toArray, List.getElem_cons_zero, List.getElem_cons_succ]
  clear HKa HBa HSa HGa HUN
  have hpb := putBytes_any wb A2 B U.length c2 M D U t.s HO2.out HSb.out (by have := HUL.out; omega) (by omega)
  rw [HTB.out] at hpb
  have HPB := Lib.hid hpb
  clear hpb
  refine wpAnyH_ready (rs := [4]) (by kernel_rfl) (by simp) ?_
  refine AllReadyH.cons rfl (fun K hK => ?_) AllReadyH.nil
  go_simp
  (refine HPB.out.mono ?_; rintro e wc ⟨v3, rfl, hown⟩; have HKc := Lib.hid (HKb.out.later hown.2); have HO3 := Lib.hid (own_base hown.1 HBb.out.size); have HBc := Lib.hid (below_then HBb.out hown.2); clear hown)
  refine hK.out _ _ (HKc.out) (fun hHeld => ?_)
  clear hK K
  try simp only [Act.put, List.setIfInBounds_toArray, List.set_cons_zero, List.set_cons_succ, List.getElem_toArray, List.getElem_cons_zero, List.getElem_cons_succ]
  refine wpAnyH_take (i := 5) (v := ?_) rfl (by kernel_rfl) (by kernel_rfl) (by kernel_rfl) (fun _ _ _ h => h) (Or.inl ⟨by rfl, ?_⟩) (by assumption) ?_
  rotate_left
  · intro w hSw
    (try dsimp only at hSw)
    go_simp
    try with_reducible rfl
  try simp only [Act.put, List.setIfInBounds_toArray, List.set_cons_zero, List.set_cons_succ, List.getElem_toArray, List.getElem_cons_zero, List.getElem_cons_succ]
  refine wpAnyH_done rfl ?_ _
  go_wp2_with fail
  go_ret
  exact ⟨_, rfl, HO3.out, HBc.out⟩
theorem txname_ret {w : World} {g : Nat} {d : List Int} (hd : DgOk d) (h : Bk w g 28 (dl d)) (tmps : Array Value) (h2 : tmps.getD 2 undef = .pointer (some ⟨g, 0, none⟩)) :
    (results Tryd.f25 tmps).run Tryd.prog w = .ok (.agg (dl d).toArray) w := by
  have r1 : w.rangeAt g 0 (dl d) := Bk.range (pre := []) (post := []) (by simpa using h) rfl
  have l1 := run_loadVar_mid (P := Tryd.prog) w g 0 28 (dl d) _ r1 Tryd.underlying28 rfl (hdg_size _ hd)
  rw [Array.getD_eq_getD_getElem?] at h2
  simp [results, Tryd.results25, h2, asAddr, l1]
/-- A transaction's name. -/
def txN (t : TxT) : List Int := ofI (txB t)
theorem txN_ok (t : TxT) : DgOk (txN t) := ofI_ok _
set_option maxRecDepth 20000 in
set_option maxHeartbeats 4000000 in
theorem txName_any (w : World) (cs : List Value) (t : TxT) (ht : Txg w cs t) (hl : t.b.length ≤ 1073741000) (hl2 : t.s.length ≤ 1073741000) :
    Calls Tryd.prog 25 #[.agg cs.toArray] w fun e w' => e = .returned (.agg (dl (txN t)).toArray) ∧ Below w.heap.size w w' := by
  have HBY := Lib.hid (fun w' (h : Txg w' cs t) => txBytes_any w' cs t h hl hl2)
  have HSZ := Lib.hid ht.size
  have HBO : Hid (ByOk (txB t)) := txB_ok ht.ok (by omega) (by omega)
  obtain ⟨X, hX⟩ : ∃ X, cs.toArray = X := ⟨_, rfl⟩
  obtain ⟨z, hz⟩ : ∃ z, w.heap.size = z := ⟨_, rfl⟩
  obtain ⟨w1, hw1⟩ : ∃ w1, (w.alloc (.cells X 47)).alloc (.cells #[.int .u8 0, .int .u8 0, .int .u8 0, .int .u8 0, .int .u8 0, .int .u8 0, .int .u8 0, .int .u8 0] 28) = w1 := ⟨_, rfl⟩
  have hb1 : Below w.heap.size w w1 := hw1 ▸ (below_new w _).alloc (by simp) _
  have kx : Bk w1 z 47 cs := hw1 ▸ (Bk.at_ w _ X hz (by rw [← hX])).alloc _
  have kr : Bk w1 (z + 1) 28 ([] ++ (dl zeroD ++ [])) := hw1 ▸ Bk.at_ _ _ #[.int .u8 0, .int .u8 0, .int .u8 0, .int .u8 0, .int .u8 0, .int .u8 0, .int .u8 0, .int .u8 0] (by simp [hz]) rfl
  have HW := Lib.hid hw1; have HB1 := Lib.hid hb1; have HZ := Lib.hid hz; have HK1 := Lib.hid kx; have HR1 := Lib.hid kr; have HG1 := Lib.hid (ht.later hb1); have HXE := Lib.hid hX
  have HNO := Lib.hid (txN_ok t)
  obtain ⟨T, hT⟩ : ∃ T, txB t = T := ⟨_, rfl⟩
  have HTN : Hid (ofI T = txN t) := by show _ = _; rw [txN, hT]
  rw [hT] at HBY HBO
  rw [hX] at HBY ⊢
  clear hX hw1 hb1 kx kr hz ht hT
  go_enter Tryd.func25, Tryd.ntmps25
  go_upto_region 1 with fail
  rw [HW.out, HZ.out]
  go_wp2_with (with_reducible refine wpList_load_bk rfl 47 _ rfl z rfl cs 47 HK1.out _ Tryd.underlying47 rfl HSZ.out ?_)
  rw [HXE.out]
  refine (HBY.out w1 HG1.out).mono ?_
  rintro e w2 ⟨v2, rfl, hown⟩
  have HR2 := Lib.hid (HR1.out.later hown.2); have HB2 := Lib.hid (below_then HB1.out hown.2)
  obtain ⟨A2, c2, rfl, hsl, hcc, had⟩ := own_facts hown
  have HSL := Lib.hid hsl; have HCC := Lib.hid hcc; have HAD := Lib.hid had
  clear hown hsl hcc had HR1 HB1 HK1 HG1
  go_wp2_with fail
  refine (hof_any w2 A2 T.length c2 T HSL.out HBO.out HCC.out HAD.out).mono ?_
  rintro e w3 ⟨rfl, hbn⟩
  rw [HTN.out]
  have HB3 := Lib.hid (below_then HB2.out hbn); have HR3 := Lib.hid (HR2.out.later hbn)
  clear hbn
  go_wp2_with (with_reducible refine stop_store 28 _ _ rfl ?_)
  refine StopD.go ?_
  refine wpList_store_part rfl 28 _ _ rfl (z + 1) 0 (.agg (dl (txN t)).toArray) (dl (txN t)) rfl rfl rfl 28 [] (dl zeroD) [] HR3.out rfl (dg_lens HNO.out) (hdg_size _ HNO.out) (dl_one' _) ?_
  intro wz hp
  have HTz : Hid (Bk wz (z + 1) 28 (dl (txN t))) := by show Bk _ _ _ _; have := hp.bk; simpa using this
  have HBz := Lib.hid (below_only HB3.out hp.only HB3.out.size (by have := HZ.out; omega))
  clear hp
  go_wp2_with fail
  refine bodyPost_ret (txname_ret HNO.out HTz.out _ rfl) rfl ?_
  exact ⟨rfl, HBz.out⟩
end Go.Proofs.YtbpmomedhdmloaaDoor
