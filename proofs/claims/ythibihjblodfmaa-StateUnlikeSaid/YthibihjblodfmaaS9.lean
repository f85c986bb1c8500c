/- Two states are signed by the same bytes just if they are the same: the walk. -/
import Derived.Test.YthibihjblodfmaaS8
import Derived.Test.YthibihjblodfmaaRL
namespace Go.Proofs.Ythibihjblodfmaa
open Go.RowKit Go.Maps

theorem sta_pre {n : Int} {t : List Int} {p : Value} : staC n t p = (dl t ++ [.int .i64 n]) ++ ([p] ++ []) := by simp [staC]
set_option maxRecDepth 20000 in
set_option maxHeartbeats 8000000 in
theorem unlike_any (w : World) (t t' : List Int) (ht : DgOk t) (ht' : DgOk t') (n n' : Int) (hn : -9223372036854775808 ≤ n ∧ n < 9223372036854775808) (hn' : -9223372036854775808 ≤ n' ∧ n' < 9223372036854775808) (A A' B : Option Addr) (N C N' C' M D : Nat) (bs bs' zs : List Int) (hNC : N ≤ C) (hNC' : N' ≤ C') (hMD : M ≤ D)
    (hb : Sl w w.heap.size 1 A N (bs.map (.int .u8))) (hb' : Sl w w.heap.size 1 A' N' (bs'.map (.int .u8))) (hz : Sl w w.heap.size 1 B M (zs.map (.int .i64))) (hbo : ByOk bs) (hbo' : ByOk bs') (hzo : I64Ok zs) :
    Calls Try.prog 8 #[.agg (staC n t (.slice A N C)).toArray, .agg (staC n' t' (.slice A' N' C')).toArray, .slice B M D] w fun e w' => e = .returned (.bool true) ∧ Below w.heap.size w w' := by
  obtain ⟨X, hX⟩ : ∃ X, (staC n t (.slice A N C)).toArray = X := ⟨_, rfl⟩
  obtain ⟨Y, hY⟩ : ∃ Y, (staC n' t' (.slice A' N' C')).toArray = Y := ⟨_, rfl⟩
  obtain ⟨w1, hw1⟩ : ∃ w1, (w.alloc (.cells X 31)).alloc (.cells Y 31) = w1 := ⟨_, rfl⟩
  have hb1 : Below w.heap.size w w1 := hw1 ▸ (below_new w _).alloc (by simp) _
  have kx : Bk w1 w.heap.size 31 (staC n t (.slice A N C)) := hw1 ▸ (Bk.new' w _ X (by rw [← hX])).alloc _
  have ky : Bk w1 (w.heap.size + 1) 31 (staC n' t' (.slice A' N' C')) := hw1 ▸ Bk.at_ _ _ Y (by simp) (by rw [← hY])
  have HW := Lib.hid hw1; have HBB1 := Lib.hid hb1; have HA1 := Lib.hid kx; have HB1 := Lib.hid ky; have HTO := Lib.hid ht; have HUO := Lib.hid ht'
  have HTS := Lib.hid (hdg_size t ht); have HUS := Lib.hid (hdg_size t' ht')
  have hn0 : Hid (-9223372036854775808 ≤ n) := hn.1
  have hn1 : Hid (n < 9223372036854775808) := hn.2
  have hm0 : Hid (-9223372036854775808 ≤ n') := hn'.1
  have hm1 : Hid (n' < 9223372036854775808) := hn'.2
  obtain ⟨KA, hK⟩ : ∃ KA, min N 5000 = KA := ⟨_, rfl⟩
  obtain ⟨KB, hK'⟩ : ∃ KA, min N' 5000 = KA := ⟨_, rfl⟩
  obtain ⟨L, hL⟩ : ∃ L, min M 20 = L := ⟨_, rfl⟩
  have hK1 : KA ≤ 5000 := by omega
  have hK1' : KB ≤ 5000 := by omega
  have hL1 : L ≤ 20 := by omega
  have HX0 := Lib.hid (hb.head1 (k := KA) (by omega)); have HY0 := Lib.hid (hb'.head1 (k := KB) (by omega)); have HZ0 := Lib.hid (hz.head1 (k := L) (by omega))
  have HBO : Hid (ByOk (bs.take KA)) := hbo.take KA
  have HBO' : Hid (ByOk (bs'.take KB)) := hbo'.take KB
  have HZO : Hid (I64Ok (zs.take L)) := fun z h => hzo z (List.mem_of_mem_take h)
  obtain ⟨ps, hps⟩ : ∃ xs, bs.take KA = xs := ⟨_, rfl⟩
  obtain ⟨qs, hqs⟩ : ∃ xs, bs'.take KB = xs := ⟨_, rfl⟩
  obtain ⟨ys, hys⟩ : ∃ ys, zs.take L = ys := ⟨_, rfl⟩
  rw [hps] at HX0 HBO
  rw [hqs] at HY0 HBO'
  rw [hys] at HZ0 HZO
  have hmin := fun ts t => min_run (P := Try.prog) ts t M 20 20 rfl
  rw [hL] at hmin
  have hhd := run_headI B M D L (by omega)
  have HFEW := Lib.hid (fun w => few_any w A N C hNC)
  have HFEW' := Lib.hid (fun w => few_any w A' N' C' hNC')
  rw [hK] at HFEW
  rw [hK'] at HFEW'
  have hlx := HX0.out.length; have hly := HY0.out.length; have hlz := HZ0.out.length
  obtain ⟨mx, hmx⟩ : ∃ m, stB t n ps = m := ⟨_, rfl⟩
  obtain ⟨my, hmy⟩ : ∃ m, stB t' n' qs = m := ⟨_, rfl⟩
  obtain ⟨mz, hmz⟩ : ∃ m, acB t' n' t qs = m := ⟨_, rfl⟩
  obtain ⟨mp, hmp⟩ : ∃ m, pyB t' ys = m := ⟨_, rfl⟩
  obtain ⟨d1, hd1⟩ : ∃ d, ofI mx = d := ⟨_, rfl⟩
  have HO1 : Hid (DgOk d1) := by show DgOk _; rw [← hd1]; exact ofI_ok _
  have bx : ByOk mx := by rw [← hmx]; exact stB_ok ht HBO.out hn0.out hn1.out (by omega)
  have bY : ByOk my := by rw [← hmy]; exact stB_ok ht' HBO'.out hm0.out hm1.out (by omega)
  have bz : ByOk mz := by rw [← hmz]; exact acB_ok ht' ht HBO'.out hm0.out hm1.out (by omega)
  have bp : ByOk mp := by rw [← hmp]; exact pyB_ok ht' HZO.out (by omega)
  have HMX := Lib.hid bx
  have HLX : Hid (mx.length ≤ 10000) := by show _ ≤ _; rw [← hmx]; have := stB_le (n := n) (p := ps) ht; omega
  obtain ⟨sx, hsx⟩ : ∃ s, strOf mx = s := ⟨_, rfl⟩
  obtain ⟨sy, hsy⟩ : ∃ s, strOf my = s := ⟨_, rfl⟩
  obtain ⟨sz, hsz⟩ : ∃ s, strOf mz = s := ⟨_, rfl⟩
  obtain ⟨sp, hsp⟩ : ∃ s, strOf mp = s := ⟨_, rfl⟩
  obtain ⟨s1, hs1⟩ : ∃ s, strOf ps = s := ⟨_, rfl⟩
  obtain ⟨s2, hs2⟩ : ∃ s, strOf qs = s := ⟨_, rfl⟩
  have hxz : (sx.toList == sz.toList) = false := by rw [← hsx, ← hsz]; exact str_ne bx bz (by rw [← hmx, ← hmz]; exact st_ac)
  have hxp : (sx.toList == sp.toList) = false := by rw [← hsx, ← hsp]; exact str_ne bx bp (by rw [← hmx, ← hmp]; exact st_py)
  have hzp : (sz.toList == sp.toList) = false := by rw [← hsz, ← hsp]; exact str_ne bz bp (by rw [← hmz, ← hmp]; exact ac_py)
  have hxy : ¬ (t = t' ∧ n = n' ∧ ps = qs) → (sx.toList == sy.toList) = false := fun h => by
    rw [← hsx, ← hsy]; exact str_ne bx bY (by rw [← hmx, ← hmy]; exact fun e => h (st_st ht ht' hn hn' (by omega) (by omega) e))
  have h12 : ps ≠ qs → (s1.toList == s2.toList) = false := fun h => by rw [← hs1, ← hs2]; exact str_ne HBO.out HBO'.out h
  have heq0 := fun W => dg_eq_run t t' ht ht' W
  have HRS : Hid (∀ w', Sl w' w'.heap.size 1 A KA (ps.map (.int .u8)) → Calls Try.prog 42 #[.agg (dl t).toArray, .int .i64 n, .slice A KA C] w' (RetB w'.heap.size mx w')) := fun w' h => by
    have := rbytesSt_any w' t ht n A KA C ps h (by omega) hn0 hn1; rwa [hmx] at this
  have HRT : Hid (∀ w', Sl w' w'.heap.size 1 A' KB (qs.map (.int .u8)) → Calls Try.prog 42 #[.agg (dl t').toArray, .int .i64 n', .slice A' KB C'] w' (RetB w'.heap.size my w')) := fun w' h => by
    have := rbytesSt_any w' t' ht' n' A' KB C' qs h (by omega) hm0 hm1; rwa [hmy] at this
  have HRA : Hid (∀ w', Sl w' w'.heap.size 1 A' KB (qs.map (.int .u8)) → Calls Try.prog 43 #[.agg (dl t').toArray, .int .i64 n', .agg (dl t).toArray, .slice A' KB C'] w' (RetB w'.heap.size mz w')) := fun w' h => by
    have := rbytesAc_any w' t' t ht' ht n' A' KB C' qs h (by omega) hm0 hm1; rwa [hmz] at this
  have HRP : Hid (∀ w', Sl w' w'.heap.size 1 B L (ys.map (.int .i64)) → Calls Try.prog 44 #[.agg (dl t').toArray, .slice B L D] w' (RetB w'.heap.size mp w')) := fun w' h => by
    have := rbytesPy_any w' t' ht' B L D ys h HZO.out (by omega); rwa [hmp] at this
  have HDS : Hid (∀ w', Sl w' w'.heap.size 1 A KA (ps.map (.int .u8)) → Calls Try.prog 46 #[.agg (staC n t (.slice A KA C)).toArray] w' fun e w'' => e = .returned (.agg (dl d1).toArray) ∧ Below w'.heap.size w' w'') := fun w' h => by
    have := sdigest_any w' n t ht A KA C ps h HBO.out (by omega) hn0 hn1; rwa [hmx, hd1] at this
  have HDT : Hid (t = t' ∧ n = n' ∧ ps = qs → ∀ w', Sl w' w'.heap.size 1 A' KB (qs.map (.int .u8)) → Calls Try.prog 46 #[.agg (staC n' t' (.slice A' KB C')).toArray] w' fun e w'' => e = .returned (.agg (dl d1).toArray) ∧ Below w'.heap.size w' w'') := fun hh w' h => by
    have := sdigest_any w' n' t' ht' A' KB C' qs h HBO'.out (by omega) hm0 hm1
    obtain ⟨e1, e2, e3⟩ := hh
    rw [← e1, ← e2, ← e3, hmx, hd1] at this
    rwa [← e1, ← e2]
  have HOF : Hid (∀ (w' : World) (A : Option Addr) (c : Nat), Sl w' w'.heap.size 1 A mx.length (mx.map (.int .u8)) → Calls Try.prog 47 #[.slice A mx.length c] w' fun e w'' => e = .returned (.agg (dl d1).toArray) ∧ Below w'.heap.size w' w'') := fun w' A c h4 => by
    have := rof2_any w' A mx.length c mx h4 HMX.out (by have := HLX.out; omega); rwa [hd1] at this
  have HSX := Lib.hid hsx; have HSY := Lib.hid hsy; have HSZ := Lib.hid hsz; have HSP := Lib.hid hsp; have HS1 := Lib.hid hs1; have HS2 := Lib.hid hs2
  have HXY := Lib.hid hxy; have H12 := Lib.hid h12; have HEQ := Lib.hid heq0; have HMY := Lib.hid hmy; have HMX2 := Lib.hid hmx
  have HAZ : Hid ((Try.prog.info? 31).map (·.size) = some (staC n t (.slice A KA C)).length) := by show _ = _; rw [staC_len ht]; exact st_size
  have HBZ : Hid ((Try.prog.info? 31).map (·.size) = some (staC n' t' (.slice A' KB C')).length) := by show _ = _; rw [staC_len ht']; exact st_size
  have HPL : Hid ((dl t ++ [Value.int .i64 n]).length = 9) := by show _ = _; simp [dl_len, ht.len]
  have HPL' : Hid ((dl t' ++ [Value.int .i64 n']).length = 9) := by show _ = _; simp [dl_len, ht'.len]
  rw [hX, hY]
  clear hX hY hw1 hb1 kx ky ht ht' hb hb' hz hbo hbo' hzo hn hn' hps hqs hys hmx hmy hmz hmp hd1 hK hK' hL hlx hly hlz bx bY bz bp hxy h12 heq0 hsx hsy hsz hsp hs1 hs2
  go_enter Try.func8, Try.ntmps8
  go_upto_region 1 with fail
  rw [HW.out]
  go_wp2_with fail
  refine wp_region_L [(2, fun w' => Bk w' w.heap.size 31 (staC n t (.slice A N C))), (5, fun w' => Bk w' (w.heap.size + 1) 31 (staC n' t' (.slice A' N' C')))] (by kernel_rfl) ⟨fun _ => Bk.drew HA1.out, fun _ => Bk.drew HB1.out, trivial⟩ (fun hHeld => ?_)
  refine wpAnyL_take0 (i := 0) (v := ?_) rfl (by kernel_rfl) (by kernel_rfl) (by kernel_rfl) (by rfl) (fun _ _ _ h => h) (Or.inl ⟨by rfl, ?_⟩) hHeld ?_
  rotate_left
  · intro w _
    go_simp
    try with_reducible rfl
  clear hHeld
  intro hHeld
  try simp only [Act.put, List.setIfInBounds_toArray, List.set_cons_zero, List.set_cons_succ, List.getElem_toArray, List.getElem_cons_zero]
  refine wpAnyL_take (i := 1) 0 rfl rfl (by kernel_rfl) (by kernel_rfl) (by kernel_rfl) (by kernel_rfl) (by kernel_rfl) (by rfl) (fun _ _ _ h => h) (v := ?_) (Or.inl ⟨by rfl, ?_⟩) hHeld ?_
  rotate_left
  · intro w hSw
    have hcell := (st_mem HTO.out hSw).c9
    clear hSw
    go_simp
    try with_reducible rfl
  clear hHeld
  intro hHeld
  try simp only [Act.put, List.setIfInBounds_toArray, List.set_cons_zero, List.set_cons_succ, List.getElem_toArray, List.getElem_cons_zero, List.getElem_cons_succ]
  refine wpAnyL_take0 (i := 3) (v := ?_) rfl (by kernel_rfl) (by kernel_rfl) (by kernel_rfl) (by rfl) (fun _ _ _ h => h) (Or.inl ⟨by rfl, ?_⟩) hHeld ?_
  rotate_left
  · intro w _
    go_simp
    try with_reducible rfl
  clear hHeld
  intro hHeld
  try simp only [Act.put, List.setIfInBounds_toArray, List.set_cons_zero, List.set_cons_succ, List.getElem_toArray, List.getElem_cons_zero, List.getElem_cons_succ]
  refine wpAnyL_take (i := 4) 1 rfl rfl (by kernel_rfl) (by kernel_rfl) (by kernel_rfl) (by kernel_rfl) (by kernel_rfl) (by rfl) (fun _ _ _ h => h) (v := ?_) (Or.inl ⟨by rfl, ?_⟩) hHeld ?_
  rotate_left
  · intro w hSw
    have hcell := (st_mem HUO.out hSw).c9
    clear hSw
    go_simp
    try with_reducible rfl
  clear hHeld
  intro hHeld
  try simp only [Act.put, List.setIfInBounds_toArray, List.set_cons_zero, List.set_cons_succ, List.getElem_toArray, List.getElem_cons_zero, List.getElem_cons_succ]
  refine wpAnyL_take0 (i := 6) (v := ?_) rfl (by kernel_rfl) (by kernel_rfl) (by kernel_rfl) (by rfl) (fun _ _ _ h => h) (Or.inl ⟨by rfl, ?_⟩) hHeld ?_
  rotate_left
  · intro w _
    go_simp
    try with_reducible rfl
  clear hHeld
  intro hHeld
  try simp only [Act.put, List.setIfInBounds_toArray, List.set_cons_zero, List.set_cons_succ, List.getElem_toArray, List.getElem_cons_zero, List.getElem_cons_succ]
  refine wpAnyL_take0 (i := 7) (v := ?_) rfl (by kernel_rfl) (by kernel_rfl) (by kernel_rfl) (by rfl) (fun _ _ _ h => h) (Or.inl ⟨by rfl, ?_⟩) hHeld ?_
  rotate_left
  · intro w _
    go_simp
    try with_reducible rfl
  clear hHeld
  intro hHeld
  try simp only [Act.put, List.setIfInBounds_toArray, List.set_cons_zero, List.set_cons_succ, List.getElem_toArray, List.getElem_cons_zero, List.getElem_cons_succ]
  refine wpAnyL_take0 (i := 8) (v := ?_) rfl (by kernel_rfl) (by kernel_rfl) (by kernel_rfl) (by rfl) (fun _ _ _ h => h) (Or.inl ⟨by rfl, ?_⟩) hHeld ?_
  rotate_left
  · intro w _
    go_simp
    try with_reducible rfl
  clear hHeld
  intro hHeld
  try simp only [Act.put, List.setIfInBounds_toArray, List.set_cons_zero, List.set_cons_succ, List.getElem_toArray, List.getElem_cons_zero, List.getElem_cons_succ]
  refine wpAnyL_take0 (i := 9) (v := ?_) rfl (by kernel_rfl) (by kernel_rfl) (by kernel_rfl) (by rfl) (fun _ _ _ h => h) (Or.inl ⟨by rfl, ?_⟩) hHeld ?_
  rotate_left
  · intro w _
    go_simp
    try with_reducible rfl
  clear hHeld
  intro hHeld
  try simp only [Act.put, List.setIfInBounds_toArray, List.set_cons_zero, List.set_cons_succ, List.getElem_toArray, List.getElem_cons_zero, List.getElem_cons_succ]
  refine wpAnyL_take0 (i := 10) (v := ?_) rfl (by kernel_rfl) (by kernel_rfl) (by kernel_rfl) (by rfl) (fun _ _ _ h => h) (Or.inl ⟨by rfl, ?_⟩) hHeld ?_
  rotate_left
  · intro w _
    go_simp
    try with_reducible rfl
  clear hHeld
  intro hHeld
  try simp only [Act.put, List.setIfInBounds_toArray, List.set_cons_zero, List.set_cons_succ, List.getElem_toArray, List.getElem_cons_zero, List.getElem_cons_succ]
  refine wpAnyL_ready (rs := [2]) (by kernel_rfl) (by simp) ?_
  refine AllReadyL.cons rfl (fun K hK => ?_) AllReadyL.nil
  go_simp
  (go_at_call 41; refine (HFEW.out w1.drew).mono ?_; rintro e w2 ⟨rfl, rfl⟩)
  refine hK.out _ _ (⟨fun h => dead h (by kernel_rfl), fun _ => Bk.drew HB1.out, trivial⟩) (fun hHeld => ?_)
  clear hK K
  try simp only [Act.put, List.setIfInBounds_toArray, List.set_cons_zero, List.set_cons_succ, List.getElem_toArray, List.getElem_cons_zero, List.getElem_cons_succ]
  refine wpAnyL_take0 (i := 11) (v := ?_) rfl (by kernel_rfl) (by kernel_rfl) (by kernel_rfl) (by rfl) (fun _ _ _ h => h) (Or.inl ⟨by rfl, ?_⟩) hHeld ?_
  rotate_left
  · intro w _
    go_simp
    try with_reducible rfl
  clear hHeld
  intro hHeld
  try simp only [Act.put, List.setIfInBounds_toArray, List.set_cons_zero, List.set_cons_succ, List.getElem_toArray, List.getElem_cons_zero, List.getElem_cons_succ]
  refine wpAnyL_ready (rs := [5]) (by kernel_rfl) (by simp) ?_
  refine AllReadyL.cons rfl (fun K hK => ?_) AllReadyL.nil
  go_simp
  (go_at_call 41; refine (HFEW'.out w1.drew).mono ?_; rintro e w2 ⟨rfl, rfl⟩)
  refine hK.out _ _ (⟨fun h => dead h (by kernel_rfl), fun h => dead h (by kernel_rfl), trivial⟩) (fun hHeld => ?_)
  clear hK K
  try simp only [Act.put, List.setIfInBounds_toArray, List.set_cons_zero, List.set_cons_succ, List.getElem_toArray, List.getElem_cons_zero, List.getElem_cons_succ]
  obtain ⟨w3, hw3⟩ : ∃ w3, w1.drew = w3 := ⟨_, rfl⟩
  have hbn : Below w1.heap.size w1 w3 := hw3 ▸ below_draws w1 _ 1
  rw [hw3] at hHeld ⊢
  clear hw3
  have HBB3 := Lib.hid (below_then HBB1.out hbn)
  have HA3 := Lib.hid (HA1.out.later hbn)
  have HB3 := Lib.hid (HB1.out.later hbn)
  clear hbn
  rw [sta_pre] at HA3
  refine wpAnyL_ready (rs := [12]) (by kernel_rfl) (by simp) ?_
  refine AllReadyL.cons rfl (fun K hK => ?_) AllReadyL.nil
  rw [if_pos (by rfl)]
  refine wp_store_part _ _ _ rfl w.heap.size 9 _ ([.slice A KA C]) rfl rfl rfl _ (dl t ++ [.int .i64 n]) ([.slice A N C]) ([]) HA3.out HPL.out rfl (by kernel_rfl) (by simp [Value.oneCell']) ?_
  intro w4 hp4
  refine hK.out _ _ ⟨fun h => dead h (by kernel_rfl), fun h => dead h (by kernel_rfl), trivial⟩ (fun hHeld => ?_)
  clear hK K
  try simp only [Act.put, List.getElem_toArray, List.getElem_cons_zero, List.getElem_cons_succ]
  have HA4 : Hid (Bk w4 w.heap.size 31 (staC n t (.slice A KA C))) := by show Bk _ _ _ _; rw [sta_pre]; exact hp4.bk
  have HB4 := Lib.hid (HB3.out.grown hp4.only (by intro h; injection h with h; omega))
  have HBB4 := Lib.hid (below_only HBB3.out hp4.only HBB3.out.size (Nat.le_refl _))
  rw [sta_pre] at HB4
  clear hp4
  refine wpAnyL_take0 (i := 13) (v := ?_) rfl (by kernel_rfl) (by kernel_rfl) (by kernel_rfl) (by rfl) (fun _ _ _ h => h) (Or.inl ⟨by rfl, ?_⟩) hHeld ?_
  rotate_left
  · intro w _
    go_simp
    try with_reducible rfl
  clear hHeld
  intro hHeld
  try simp only [Act.put, List.setIfInBounds_toArray, List.set_cons_zero, List.set_cons_succ, List.getElem_toArray, List.getElem_cons_zero, List.getElem_cons_succ]
  refine wpAnyL_ready (rs := [14]) (by kernel_rfl) (by simp) ?_
  refine AllReadyL.cons rfl (fun K hK => ?_) AllReadyL.nil
  rw [if_pos (by rfl)]
  refine wp_store_part _ _ _ rfl (w.heap.size + 1) 9 _ ([.slice A' KB C']) rfl rfl rfl _ (dl t' ++ [.int .i64 n']) ([.slice A' N' C']) ([]) HB4.out HPL'.out rfl (by kernel_rfl) (by simp [Value.oneCell']) ?_
  intro w5 hp5
  refine hK.out _ _ ⟨fun h => dead h (by kernel_rfl), fun h => dead h (by kernel_rfl), trivial⟩ (fun hHeld => ?_)
  clear hK K
  try simp only [Act.put, List.getElem_toArray, List.getElem_cons_zero, List.getElem_cons_succ]
  have HB5 : Hid (Bk w5 (w.heap.size + 1) 31 (staC n' t' (.slice A' KB C'))) := by show Bk _ _ _ _; rw [sta_pre]; exact hp5.bk
  have HA5 := Lib.hid (HA4.out.grown hp5.only (by intro h; injection h with h; omega))
  have HBB5 := Lib.hid (below_only HBB4.out hp5.only HBB4.out.size (Nat.le_succ _))
  clear hp5
  refine wpAnyL_take0 (i := 15) (v := ?_) rfl (by kernel_rfl) (by kernel_rfl) (by kernel_rfl) (by rfl) (fun _ _ _ h => h) (Or.inl ⟨by rfl, ?_⟩) hHeld ?_
  rotate_left
  · intro w _
    go_simp
    try with_reducible rfl
  clear hHeld
  intro hHeld
  try simp only [Act.put, List.setIfInBounds_toArray, List.set_cons_zero, List.set_cons_succ, List.getElem_toArray, List.getElem_cons_zero, List.getElem_cons_succ]
  refine wpAnyL_done (by kernel_rfl) ?_ _
  clear hHeld hmin hhd HA1 HB1 HA3 HB3 HA4 HB4
  go_wp2_with fail
  refine wp_region_held_drew (S := fun w' => Bk w' w.heap.size 31 (staC n t (.slice A KA C)) ∧ Bk w' (w.heap.size + 1) 31 (staC n' t' (.slice A' KB C'))) (by kernel_rfl) ⟨Bk.drew HA5.out, Bk.drew HB5.out⟩ (fun hHeld => ?_)
  refine wpAnyH_take (i := 0) (v := ?_) rfl (by kernel_rfl) (by kernel_rfl) (by kernel_rfl) (fun _ _ _ h => h) (Or.inl ⟨by rfl, ?_⟩) (by assumption) ?_
  rotate_left
  · intro w hSw
    (try dsimp only at hSw)
    go_simp
    try with_reducible rfl
  try simp only [Act.put, List.setIfInBounds_toArray, List.set_cons_zero, List.set_cons_succ, List.getElem_toArray, List.getElem_cons_zero]
  refine wpAnyH_take (i := 1) (v := .agg (List.toArray (dl t))) rfl (by kernel_rfl) (by kernel_rfl) (by kernel_rfl) (fun _ _ _ h => h) (yieldsIf_load_mid (by rfl) _ _ rfl _ _ rfl (dl t) _ (fun w hSw => ((st_mem HTO.out hSw.1).r0)) Try.underlying29 rfl (HTS.out)) (by assumption) ?_
  try simp only [Act.put, List.setIfInBounds_toArray, List.set_cons_zero, List.set_cons_succ, List.getElem_toArray, List.getElem_cons_zero, List.getElem_cons_succ]
  refine wpAnyH_take (i := 2) (v := ?_) rfl (by kernel_rfl) (by kernel_rfl) (by kernel_rfl) (fun _ _ _ h => h) (Or.inl ⟨by rfl, ?_⟩) (by assumption) ?_
  rotate_left
  · intro w hSw
    (try dsimp only at hSw)
    go_simp
    try with_reducible rfl
  try simp only [Act.put, List.setIfInBounds_toArray, List.set_cons_zero, List.set_cons_succ, List.getElem_toArray, List.getElem_cons_zero, List.getElem_cons_succ]
  refine wpAnyH_take (i := 3) (v := ?_) rfl (by kernel_rfl) (by kernel_rfl) (by kernel_rfl) (fun _ _ _ h => h) (Or.inl ⟨by rfl, ?_⟩) (by assumption) ?_
  rotate_left
  · intro w hSw
    have hcell := (st_mem HTO.out hSw.1).c8
    clear hSw
    go_simp
    try with_reducible rfl
  try simp only [Act.put, List.setIfInBounds_toArray, List.set_cons_zero, List.set_cons_succ, List.getElem_toArray, List.getElem_cons_zero, List.getElem_cons_succ]
  refine wpAnyH_take (i := 4) (v := ?_) rfl (by kernel_rfl) (by kernel_rfl) (by kernel_rfl) (fun _ _ _ h => h) (Or.inl ⟨by rfl, ?_⟩) (by assumption) ?_
  rotate_left
  · intro w hSw
    (try dsimp only at hSw)
    go_simp
    try with_reducible rfl
  try simp only [Act.put, List.setIfInBounds_toArray, List.set_cons_zero, List.set_cons_succ, List.getElem_toArray, List.getElem_cons_zero, List.getElem_cons_succ]
  refine wpAnyH_take (i := 5) (v := ?_) rfl (by kernel_rfl) (by kernel_rfl) (by kernel_rfl) (fun _ _ _ h => h) (Or.inl ⟨by rfl, ?_⟩) (by assumption) ?_
  rotate_left
  · intro w hSw
    have hcell := (st_mem HTO.out hSw.1).c9
    clear hSw
    go_simp
    try with_reducible rfl
  try simp only [Act.put, List.setIfInBounds_toArray, List.set_cons_zero, List.set_cons_succ, List.getElem_toArray, List.getElem_cons_zero, List.getElem_cons_succ]
  refine wpAnyH_take (i := 7) (v := ?_) rfl (by kernel_rfl) (by kernel_rfl) (by kernel_rfl) (fun _ _ _ h => h) (Or.inl ⟨by rfl, ?_⟩) (by assumption) ?_
  rotate_left
  · intro w hSw
    (try dsimp only at hSw)
    go_simp
    try with_reducible rfl
  try simp only [Act.put, List.setIfInBounds_toArray, List.set_cons_zero, List.set_cons_succ, List.getElem_toArray, List.getElem_cons_zero, List.getElem_cons_succ]
  refine wpAnyH_take (i := 8) (v := .agg (List.toArray (dl t'))) rfl (by kernel_rfl) (by kernel_rfl) (by kernel_rfl) (fun _ _ _ h => h) (yieldsIf_load_mid (by rfl) _ _ rfl _ _ rfl (dl t') _ (fun w hSw => ((st_mem HUO.out hSw.2).r0)) Try.underlying29 rfl (HUS.out)) (by assumption) ?_
  try simp only [Act.put, List.setIfInBounds_toArray, List.set_cons_zero, List.set_cons_succ, List.getElem_toArray, List.getElem_cons_zero, List.getElem_cons_succ]
  refine wpAnyH_take (i := 9) (v := ?_) rfl (by kernel_rfl) (by kernel_rfl) (by kernel_rfl) (fun _ _ _ h => h) (Or.inl ⟨by rfl, ?_⟩) (by assumption) ?_
  rotate_left
  · intro w hSw
    (try dsimp only at hSw)
    go_simp
    try with_reducible rfl
  try simp only [Act.put, List.setIfInBounds_toArray, List.set_cons_zero, List.set_cons_succ, List.getElem_toArray, List.getElem_cons_zero, List.getElem_cons_succ]
  refine wpAnyH_take (i := 10) (v := ?_) rfl (by kernel_rfl) (by kernel_rfl) (by kernel_rfl) (fun _ _ _ h => h) (Or.inl ⟨by rfl, ?_⟩) (by assumption) ?_
  rotate_left
  · intro w hSw
    have hcell := (st_mem HUO.out hSw.2).c8
    clear hSw
    go_simp
    try with_reducible rfl
  try simp only [Act.put, List.setIfInBounds_toArray, List.set_cons_zero, List.set_cons_succ, List.getElem_toArray, List.getElem_cons_zero, List.getElem_cons_succ]
  refine wpAnyH_take (i := 11) (v := ?_) rfl (by kernel_rfl) (by kernel_rfl) (by kernel_rfl) (fun _ _ _ h => h) (Or.inl ⟨by rfl, ?_⟩) (by assumption) ?_
  rotate_left
  · intro w hSw
    (try dsimp only at hSw)
    go_simp
    try with_reducible rfl
  try simp only [Act.put, List.setIfInBounds_toArray, List.set_cons_zero, List.set_cons_succ, List.getElem_toArray, List.getElem_cons_zero, List.getElem_cons_succ]
  refine wpAnyH_take (i := 12) (v := ?_) rfl (by kernel_rfl) (by kernel_rfl) (by kernel_rfl) (fun _ _ _ h => h) (Or.inl ⟨by rfl, ?_⟩) (by assumption) ?_
  rotate_left
  · intro w hSw
    have hcell := (st_mem HUO.out hSw.2).c9
    clear hSw
    go_simp
    try with_reducible rfl
  try simp only [Act.put, List.setIfInBounds_toArray, List.set_cons_zero, List.set_cons_succ, List.getElem_toArray, List.getElem_cons_zero, List.getElem_cons_succ]
  refine wpAnyH_ready (rs := [6]) (by kernel_rfl) (by simp) ?_
  refine AllReadyH.cons rfl (fun K hK => ?_) AllReadyH.nil
  go_simp
  (go_at_call 42; refine (HRS.out w5.drew ((HX0.out.later HBB5.out).drew)).mono ?_; rintro e w6 ⟨v, rfl, hown⟩; have hbn : Below w5.heap.size w5 w6 := (below_draws w5 _ 1).trans hown.2; obtain ⟨A6, c6, rfl⟩ := hown.form; have HPx6 := Lib.hid (Sl.of_own hown.1); clear hown; have HBB6 := Lib.hid (below_then HBB5.out hbn); have HA6 := Lib.hid (HA5.out.later hbn); have HB6 := Lib.hid (HB5.out.later hbn); clear hbn)
  refine hK.out _ _ (⟨HA6.out, HB6.out⟩) (fun hHeld => ?_)
  clear hK K
  try simp only [Act.put, List.setIfInBounds_toArray, List.set_cons_zero, List.set_cons_succ, List.getElem_toArray, List.getElem_cons_zero, List.getElem_cons_succ]
  refine wpAnyH_ready (rs := [13]) (by kernel_rfl) (by simp) ?_
  refine AllReadyH.cons rfl (fun K hK => ?_) AllReadyH.nil
  go_simp
  (go_at_call 42; refine (HRT.out w6 (HY0.out.later HBB6.out)).mono ?_; rintro e w7 ⟨v, rfl, hown⟩; have hbn : Below w6.heap.size w6 w7 := hown.2; obtain ⟨A7, c7, rfl⟩ := hown.form; have HPy7 := Lib.hid (Sl.of_own hown.1); clear hown; have HBB7 := Lib.hid (below_then HBB6.out hbn); have HA7 := Lib.hid (HA6.out.later hbn); have HB7 := Lib.hid (HB6.out.later hbn); have HPx7 := Lib.hid (HPx6.out.later hbn); clear hbn)
  refine hK.out _ _ (⟨HA7.out, HB7.out⟩) (fun hHeld => ?_)
  clear hK K
  try simp only [Act.put, List.setIfInBounds_toArray, List.set_cons_zero, List.set_cons_succ, List.getElem_toArray, List.getElem_cons_zero, List.getElem_cons_succ]
  refine wpAnyH_take (i := 14) (v := ?_) rfl (by kernel_rfl) (by kernel_rfl) (by kernel_rfl) (fun _ _ _ h => h) (Or.inl ⟨by rfl, ?_⟩) (by assumption) ?_
  rotate_left
  · intro w hSw
    (try dsimp only at hSw)
    go_simp
    try with_reducible rfl
  try simp only [Act.put, List.setIfInBounds_toArray, List.set_cons_zero, List.set_cons_succ, List.getElem_toArray, List.getElem_cons_zero, List.getElem_cons_succ]
  refine wpAnyH_take (i := 15) (v := ?_) rfl (by kernel_rfl) (by kernel_rfl) (by kernel_rfl) (fun _ _ _ h => h) (Or.inl ⟨by rfl, ?_⟩) (by assumption) ?_
  rotate_left
  · intro w hSw
    (try dsimp only at hSw)
    go_simp
    try with_reducible rfl
  try simp only [Act.put, List.setIfInBounds_toArray, List.set_cons_zero, List.set_cons_succ, List.getElem_toArray, List.getElem_cons_zero, List.getElem_cons_succ]
  refine wpAnyH_done (by kernel_rfl) ?_ _
  clear hHeld
  go_wp2_with fail
  refine wp_region_held_drew (S := fun w' => Bk w' w.heap.size 31 (staC n t (.slice A KA C)) ∧ Bk w' (w.heap.size + 1) 31 (staC n' t' (.slice A' KB C'))) (by kernel_rfl) ⟨Bk.drew HA7.out, Bk.drew HB7.out⟩ (fun hHeld => ?_)
  refine wpAnyH_take (i := 0) (v := ?_) rfl (by kernel_rfl) (by kernel_rfl) (by kernel_rfl) (fun _ _ _ h => h) (Or.inl ⟨by rfl, ?_⟩) (by assumption) ?_
  rotate_left
  · intro w hSw
    (try dsimp only at hSw)
    go_simp
    try with_reducible rfl
  try simp only [Act.put, List.setIfInBounds_toArray, List.set_cons_zero, List.set_cons_succ, List.getElem_toArray, List.getElem_cons_zero]
  refine wpAnyH_take (i := 1) (v := .agg (List.toArray (dl t'))) rfl (by kernel_rfl) (by kernel_rfl) (by kernel_rfl) (fun _ _ _ h => h) (yieldsIf_load_mid (by rfl) _ _ rfl _ _ rfl (dl t') _ (fun w hSw => ((st_mem HUO.out hSw.2).r0)) Try.underlying29 rfl (HUS.out)) (by assumption) ?_
  try simp only [Act.put, List.setIfInBounds_toArray, List.set_cons_zero, List.set_cons_succ, List.getElem_toArray, List.getElem_cons_zero, List.getElem_cons_succ]
  refine wpAnyH_take (i := 2) (v := ?_) rfl (by kernel_rfl) (by kernel_rfl) (by kernel_rfl) (fun _ _ _ h => h) (Or.inl ⟨by rfl, ?_⟩) (by assumption) ?_
  rotate_left
  · intro w hSw
    (try dsimp only at hSw)
    go_simp
    try with_reducible rfl
  try simp only [Act.put, List.setIfInBounds_toArray, List.set_cons_zero, List.set_cons_succ, List.getElem_toArray, List.getElem_cons_zero, List.getElem_cons_succ]
  refine wpAnyH_take (i := 3) (v := ?_) rfl (by kernel_rfl) (by kernel_rfl) (by kernel_rfl) (fun _ _ _ h => h) (Or.inl ⟨by rfl, ?_⟩) (by assumption) ?_
  rotate_left
  · intro w hSw
    have hcell := (st_mem HUO.out hSw.2).c8
    clear hSw
    go_simp
    try with_reducible rfl
  try simp only [Act.put, List.setIfInBounds_toArray, List.set_cons_zero, List.set_cons_succ, List.getElem_toArray, List.getElem_cons_zero, List.getElem_cons_succ]
  refine wpAnyH_take (i := 4) (v := ?_) rfl (by kernel_rfl) (by kernel_rfl) (by kernel_rfl) (fun _ _ _ h => h) (Or.inl ⟨by rfl, ?_⟩) (by assumption) ?_
  rotate_left
  · intro w hSw
    (try dsimp only at hSw)
    go_simp
    try with_reducible rfl
  try simp only [Act.put, List.setIfInBounds_toArray, List.set_cons_zero, List.set_cons_succ, List.getElem_toArray, List.getElem_cons_zero, List.getElem_cons_succ]
  refine wpAnyH_take (i := 5) (v := .agg (List.toArray (dl t))) rfl (by kernel_rfl) (by kernel_rfl) (by kernel_rfl) (fun _ _ _ h => h) (yieldsIf_load_mid (by rfl) _ _ rfl _ _ rfl (dl t) _ (fun w hSw => ((st_mem HTO.out hSw.1).r0)) Try.underlying29 rfl (HTS.out)) (by assumption) ?_
  try simp only [Act.put, List.setIfInBounds_toArray, List.set_cons_zero, List.set_cons_succ, List.getElem_toArray, List.getElem_cons_zero, List.getElem_cons_succ]
  refine wpAnyH_take (i := 6) (v := ?_) rfl (by kernel_rfl) (by kernel_rfl) (by kernel_rfl) (fun _ _ _ h => h) (Or.inl ⟨by rfl, ?_⟩) (by assumption) ?_
  rotate_left
  · intro w hSw
    (try dsimp only at hSw)
    go_simp
    try with_reducible rfl
  try simp only [Act.put, List.setIfInBounds_toArray, List.set_cons_zero, List.set_cons_succ, List.getElem_toArray, List.getElem_cons_zero, List.getElem_cons_succ]
  refine wpAnyH_take (i := 7) (v := ?_) rfl (by kernel_rfl) (by kernel_rfl) (by kernel_rfl) (fun _ _ _ h => h) (Or.inl ⟨by rfl, ?_⟩) (by assumption) ?_
  rotate_left
  · intro w hSw
    have hcell := (st_mem HUO.out hSw.2).c9
    clear hSw
    go_simp
    try with_reducible rfl
  try simp only [Act.put, List.setIfInBounds_toArray, List.set_cons_zero, List.set_cons_succ, List.getElem_toArray, List.getElem_cons_zero, List.getElem_cons_succ]
  refine wpAnyH_take (i := 9) (v := ?_) rfl (by kernel_rfl) (by kernel_rfl) (by kernel_rfl) (fun _ _ _ h => h) (Or.inl ⟨by rfl, ?_⟩) (by assumption) ?_
  rotate_left
  · intro w hSw
    (try dsimp only at hSw)
    go_simp
    try with_reducible rfl
  try simp only [Act.put, List.setIfInBounds_toArray, List.set_cons_zero, List.set_cons_succ, List.getElem_toArray, List.getElem_cons_zero, List.getElem_cons_succ]
  refine wpAnyH_take (i := 10) (v := .agg (List.toArray (dl t'))) rfl (by kernel_rfl) (by kernel_rfl) (by kernel_rfl) (fun _ _ _ h => h) (yieldsIf_load_mid (by rfl) _ _ rfl _ _ rfl (dl t') _ (fun w hSw => ((st_mem HUO.out hSw.2).r0)) Try.underlying29 rfl (HUS.out)) (by assumption) ?_
  try simp only [Act.put, List.setIfInBounds_toArray, List.set_cons_zero, List.set_cons_succ, List.getElem_toArray, List.getElem_cons_zero, List.getElem_cons_succ]
  refine wpAnyH_take (i := 11) (v := ?_) rfl (by kernel_rfl) (by kernel_rfl) (by kernel_rfl) (fun _ _ _ h => h) (Or.inl ⟨by rfl, ?_⟩) (by assumption) ?_
  rotate_left
  · intro w hSw
    (try dsimp only at hSw)
    go_simp
    try with_reducible rfl
  try simp only [Act.put, List.setIfInBounds_toArray, List.set_cons_zero, List.set_cons_succ, List.getElem_toArray, List.getElem_cons_zero, List.getElem_cons_succ]
  refine wpAnyH_ready (rs := [8]) (by kernel_rfl) (by simp) ?_
  refine AllReadyH.cons rfl (fun K hK => ?_) AllReadyH.nil
  go_simp
  (go_at_call 43; refine (HRA.out w7.drew ((HY0.out.later HBB7.out).drew)).mono ?_; rintro e w8 ⟨v, rfl, hown⟩; have hbn : Below w7.heap.size w7 w8 := (below_draws w7 _ 1).trans hown.2; obtain ⟨A8, c8, rfl⟩ := hown.form; have HPz8 := Lib.hid (Sl.of_own hown.1); clear hown; have HBB8 := Lib.hid (below_then HBB7.out hbn); have HA8 := Lib.hid (HA7.out.later hbn); have HB8 := Lib.hid (HB7.out.later hbn); have HPx8 := Lib.hid (HPx7.out.later hbn); have HPy8 := Lib.hid (HPy7.out.later hbn); clear hbn)
  refine hK.out _ _ (⟨HA8.out, HB8.out⟩) (fun hHeld => ?_)
  clear hK K
  try simp only [Act.put, List.setIfInBounds_toArray, List.set_cons_zero, List.set_cons_succ, List.getElem_toArray, List.getElem_cons_zero, List.getElem_cons_succ]
  refine wpAnyH_ready (rs := [12]) (by kernel_rfl) (by simp) ?_
  refine AllReadyH.cons rfl (fun K hK => ?_) AllReadyH.nil
  go_simp
  (go_at_call 44; refine (HRP.out w8 (HZ0.out.later HBB8.out)).mono ?_; rintro e w9 ⟨v, rfl, hown⟩; have hbn : Below w8.heap.size w8 w9 := hown.2; obtain ⟨A9, c9, rfl⟩ := hown.form; have HPp9 := Lib.hid (Sl.of_own hown.1); clear hown; have HBB9 := Lib.hid (below_then HBB8.out hbn); have HA9 := Lib.hid (HA8.out.later hbn); have HB9 := Lib.hid (HB8.out.later hbn); have HPx9 := Lib.hid (HPx8.out.later hbn); have HPy9 := Lib.hid (HPy8.out.later hbn); have HPz9 := Lib.hid (HPz8.out.later hbn); clear hbn)
  refine hK.out _ _ (⟨HA9.out, HB9.out⟩) (fun hHeld => ?_)
  clear hK K
  try simp only [Act.put, List.setIfInBounds_toArray, List.set_cons_zero, List.set_cons_succ, List.getElem_toArray, List.getElem_cons_zero, List.getElem_cons_succ]
  refine wpAnyH_take (i := 13) (v := ?_) rfl (by kernel_rfl) (by kernel_rfl) (by kernel_rfl) (fun _ _ _ h => h) (Or.inl ⟨by rfl, ?_⟩) (by assumption) ?_
  rotate_left
  · intro w hSw
    (try dsimp only at hSw)
    go_simp
    try with_reducible rfl
  try simp only [Act.put, List.setIfInBounds_toArray, List.set_cons_zero, List.set_cons_succ, List.getElem_toArray, List.getElem_cons_zero, List.getElem_cons_succ]
  refine wpAnyH_take (i := 14) (v := ?_) rfl (by kernel_rfl) (by kernel_rfl) (by kernel_rfl) (fun _ _ _ h => h) (Or.inl ⟨by rfl, ?_⟩) (by assumption) ?_
  rotate_left
  · intro w hSw
    (try dsimp only at hSw)
    go_simp
    try with_reducible rfl
  try simp only [Act.put, List.setIfInBounds_toArray, List.set_cons_zero, List.set_cons_succ, List.getElem_toArray, List.getElem_cons_zero, List.getElem_cons_succ]
  refine wpAnyH_done (by kernel_rfl) ?_ _
  clear hHeld HA5 HB5 HA6 HB6 HA7 HB7 HA8 HB8
  have HX9 := Lib.hid (HX0.out.later HBB9.out); have HY9 := Lib.hid (HY0.out.later HBB9.out)
  by_cases hs : t = t' ∧ n = n' ∧ ps = qs
  · have HSA := Lib.hid hs
    have heq := fun W => (HEQ.out W).trans (by rw [hs.1, eqL_self] : _ = Result.ok true W)
    have hnn : (n == n') = true := by rw [hs.2.1]; simp
    have h12 : (s1.toList == s2.toList) = true := by rw [← HS1.out, ← HS2.out, hs.2.2]; simp
    have hxy : (sx.toList == sy.toList) = true := by rw [← HSX.out, ← HSY.out, ← HMX2.out, ← HMY.out, hs.1, hs.2.1, hs.2.2]; simp
    clear hs
    have hc8 := (st_mem HTO.out HA9.out).c8
    have hc9 := (st_mem HTO.out HA9.out).c9
    have hd8 := (st_mem HUO.out HB9.out).c8
    have hd9 := (st_mem HUO.out HB9.out).c9
    have hr0 := (st_mem HTO.out HA9.out).r0
    have hs0 := (st_mem HUO.out HB9.out).r0
    have hcv1 := conv_any w9 _ A KA C ps (HX9.out)
    have hcv2 := conv_any w9 _ A' KB C' qs (HY9.out)
    have hcx := conv_any w9 _ A6 _ c6 mx HPx9.out
    have hcy := conv_any w9 _ A7 _ c7 my HPy9.out
    have hcz := conv_any w9 _ A8 _ c8 mz HPz9.out
    have hcp := conv_any w9 _ A9 _ c9 mp HPp9.out
    rw [HSX.out] at hcx
    rw [HSY.out] at hcy
    rw [HSZ.out] at hcz
    rw [HSP.out] at hcp
    rw [HS1.out] at hcv1
    rw [HS2.out] at hcv2
    go_wp2_with (first
      | ((with_reducible refine wpList_load_mid rfl 29 _ rfl w.heap.size 0 rfl (dl t) _ hr0 Try.underlying29 rfl HTS.out ?_))
      | ((with_reducible refine wpList_load_mid rfl 29 _ rfl (w.heap.size + 1) 0 rfl (dl t') _ hs0 Try.underlying29 rfl HUS.out ?_)))
    clear hc8 hc9 hd8 hd9 hr0 hs0 hcv1 hcv2 hcx hcy hcz hcp
    refine wp_region_held_drew (S := fun w' => Bk w' w.heap.size 31 (staC n t (.slice A KA C)) ∧ Bk w' (w.heap.size + 1) 31 (staC n' t' (.slice A' KB C'))) (by kernel_rfl) ⟨Bk.drew HA9.out, Bk.drew HB9.out⟩ (fun hHeld => ?_)
    refine wpAnyH_ready (rs := [0]) (by kernel_rfl) (by simp) ?_
    refine AllReadyH.cons rfl (fun K hK => ?_) AllReadyH.nil
    go_simp
    (go_at_call 45; refine (stold_any w9.drew).mono ?_; rintro e w10 ⟨rfl, hbn⟩; have hbn := (below_draws w9 _ 1).trans hbn; have HBB10 := Lib.hid (below_then HBB9.out hbn); have HA10 := Lib.hid (HA9.out.later hbn); have HB10 := Lib.hid (HB9.out.later hbn); have HPx10 := Lib.hid (HPx9.out.later hbn); clear hbn)
    refine hK.out _ _ (⟨HA10.out, HB10.out⟩) (fun hHeld => ?_)
    clear hK K
    try simp only [Act.put, List.setIfInBounds_toArray, List.set_cons_zero, List.set_cons_succ, List.getElem_toArray, List.getElem_cons_zero, List.getElem_cons_succ]
    refine wpAnyH_take (i := 1) (v := ?_) rfl (by kernel_rfl) (by kernel_rfl) (by kernel_rfl) (fun _ _ _ h => h) (Or.inl ⟨by rfl, ?_⟩) (by assumption) ?_
    rotate_left
    · intro w hSw
      (try dsimp only at hSw)
      go_simp
      try with_reducible rfl
    try simp only [Act.put, List.setIfInBounds_toArray, List.set_cons_zero, List.set_cons_succ, List.getElem_toArray, List.getElem_cons_zero, List.getElem_cons_succ]
    refine wpAnyH_take (i := 2) (v := .agg (List.toArray (staC n t (.slice A KA C)))) rfl (by kernel_rfl) (by kernel_rfl) (by kernel_rfl) (fun _ _ _ h => h) (yieldsIf_load_mid (by rfl) _ _ rfl _ _ rfl (staC n t (.slice A KA C)) _ (fun w hSw => (Bk.range (pre := []) (post := []) (by simpa using hSw.1) rfl)) Try.underlying31 rfl (HAZ.out)) (by assumption) ?_
    try simp only [Act.put, List.setIfInBounds_toArray, List.set_cons_zero, List.set_cons_succ, List.getElem_toArray, List.getElem_cons_zero, List.getElem_cons_succ]
    refine wpAnyH_take (i := 4) (v := ?_) rfl (by kernel_rfl) (by kernel_rfl) (by kernel_rfl) (fun _ _ _ h => h) (Or.inl ⟨by rfl, ?_⟩) (by assumption) ?_
    rotate_left
    · intro w hSw
      (try dsimp only at hSw)
      go_simp
      try with_reducible rfl
    try simp only [Act.put, List.setIfInBounds_toArray, List.set_cons_zero, List.set_cons_succ, List.getElem_toArray, List.getElem_cons_zero, List.getElem_cons_succ]
    refine wpAnyH_ready (rs := [3]) (by kernel_rfl) (by simp) ?_
    refine AllReadyH.cons rfl (fun K hK => ?_) AllReadyH.nil
    go_simp
    (go_at_call 46; refine (HDS.out w10 (HX0.out.later HBB10.out)).mono ?_; rintro e w11 ⟨rfl, hbn⟩; have HBB11 := Lib.hid (below_then HBB10.out hbn); have HA11 := Lib.hid (HA10.out.later hbn); have HB11 := Lib.hid (HB10.out.later hbn); have HPx11 := Lib.hid (HPx10.out.later hbn); clear hbn)
    refine hK.out _ _ (⟨HA11.out, HB11.out⟩) (fun hHeld => ?_)
    clear hK K
    try simp only [Act.put, List.setIfInBounds_toArray, List.set_cons_zero, List.set_cons_succ, List.getElem_toArray, List.getElem_cons_zero, List.getElem_cons_succ]
    refine wpAnyH_ready (rs := [5]) (by kernel_rfl) (by simp) ?_
    refine AllReadyH.cons rfl (fun K hK => ?_) AllReadyH.nil
    go_simp
    (go_at_call 47; refine (HOF.out w11 A6 c6 HPx11.out).mono ?_; rintro e w12 ⟨rfl, hbn⟩; have HBB12 := Lib.hid (below_then HBB11.out hbn); have HA12 := Lib.hid (HA11.out.later hbn); have HB12 := Lib.hid (HB11.out.later hbn); clear hbn)
    refine hK.out _ _ (⟨HA12.out, HB12.out⟩) (fun hHeld => ?_)
    clear hK K
    try simp only [Act.put, List.setIfInBounds_toArray, List.set_cons_zero, List.set_cons_succ, List.getElem_toArray, List.getElem_cons_zero, List.getElem_cons_succ]
    refine wpAnyH_take (i := 6) (v := ?_) rfl (by kernel_rfl) (by kernel_rfl) (by kernel_rfl) (fun _ _ _ h => h) (Or.inl ⟨by rfl, ?_⟩) (by assumption) ?_
    rotate_left
    · intro w hSw
      have hcell := (fun W => (dg_eq_run d1 d1 HO1.out HO1.out W).trans (by rw [eqL_self]))
      clear hSw
      go_simp
      try with_reducible rfl
    try simp only [Act.put, List.setIfInBounds_toArray, List.set_cons_zero, List.set_cons_succ, List.getElem_toArray, List.getElem_cons_zero, List.getElem_cons_succ]
    refine wpAnyH_take (i := 7) (v := ?_) rfl (by kernel_rfl) (by kernel_rfl) (by kernel_rfl) (fun _ _ _ h => h) (Or.inl ⟨by rfl, ?_⟩) (by assumption) ?_
    rotate_left
    · intro w hSw
      (try dsimp only at hSw)
      go_simp
      try with_reducible rfl
    try simp only [Act.put, List.setIfInBounds_toArray, List.set_cons_zero, List.set_cons_succ, List.getElem_toArray, List.getElem_cons_zero, List.getElem_cons_succ]
    refine wpAnyH_take (i := 8) (v := ?_) rfl (by kernel_rfl) (by kernel_rfl) (by kernel_rfl) (fun _ _ _ h => h) (Or.inl ⟨by rfl, ?_⟩) (by assumption) ?_
    rotate_left
    · intro w hSw
      (try dsimp only at hSw)
      go_simp
      try with_reducible rfl
    try simp only [Act.put, List.setIfInBounds_toArray, List.set_cons_zero, List.set_cons_succ, List.getElem_toArray, List.getElem_cons_zero, List.getElem_cons_succ]
    refine wpAnyH_take (i := 9) (v := ?_) rfl (by kernel_rfl) (by kernel_rfl) (by kernel_rfl) (fun _ _ _ h => h) (Or.inl ⟨by rfl, ?_⟩) (by assumption) ?_
    rotate_left
    · intro w hSw
      (try dsimp only at hSw)
      go_simp
      try with_reducible rfl
    try simp only [Act.put, List.setIfInBounds_toArray, List.set_cons_zero, List.set_cons_succ, List.getElem_toArray, List.getElem_cons_zero, List.getElem_cons_succ]
    refine wpAnyH_take (i := 10) (v := ?_) rfl (by kernel_rfl) (by kernel_rfl) (by kernel_rfl) (fun _ _ _ h => h) (Or.inl ⟨by rfl, ?_⟩) (by assumption) ?_
    rotate_left
    · intro w hSw
      (try dsimp only at hSw)
      go_simp
      try with_reducible rfl
    try simp only [Act.put, List.setIfInBounds_toArray, List.set_cons_zero, List.set_cons_succ, List.getElem_toArray, List.getElem_cons_zero, List.getElem_cons_succ]
    refine wpAnyH_take (i := 11) (v := ?_) rfl (by kernel_rfl) (by kernel_rfl) (by kernel_rfl) (fun _ _ _ h => h) (Or.inl ⟨by rfl, ?_⟩) (by assumption) ?_
    rotate_left
    · intro w hSw
      (try dsimp only at hSw)
      go_simp
      try with_reducible rfl
    try simp only [Act.put, List.setIfInBounds_toArray, List.set_cons_zero, List.set_cons_succ, List.getElem_toArray, List.getElem_cons_zero, List.getElem_cons_succ]
    refine wpAnyH_take (i := 12) (v := .agg (List.toArray (staC n t (.slice A KA C)))) rfl (by kernel_rfl) (by kernel_rfl) (by kernel_rfl) (fun _ _ _ h => h) (yieldsIf_load_mid (by rfl) _ _ rfl _ _ rfl (staC n t (.slice A KA C)) _ (fun w hSw => (Bk.range (pre := []) (post := []) (by simpa using hSw.1) rfl)) Try.underlying31 rfl (HAZ.out)) (by assumption) ?_
    try simp only [Act.put, List.setIfInBounds_toArray, List.set_cons_zero, List.set_cons_succ, List.getElem_toArray, List.getElem_cons_zero, List.getElem_cons_succ]
    refine wpAnyH_take (i := 14) (v := .agg (List.toArray (staC n' t' (.slice A' KB C')))) rfl (by kernel_rfl) (by kernel_rfl) (by kernel_rfl) (fun _ _ _ h => h) (yieldsIf_load_mid (by rfl) _ _ rfl _ _ rfl (staC n' t' (.slice A' KB C')) _ (fun w hSw => (Bk.range (pre := []) (post := []) (by simpa using hSw.2) rfl)) Try.underlying31 rfl (HBZ.out)) (by assumption) ?_
    try simp only [Act.put, List.setIfInBounds_toArray, List.set_cons_zero, List.set_cons_succ, List.getElem_toArray, List.getElem_cons_zero, List.getElem_cons_succ]
    refine wpAnyH_ready (rs := [13]) (by kernel_rfl) (by simp) ?_
    refine AllReadyH.cons rfl (fun K hK => ?_) AllReadyH.nil
    go_simp
    (go_at_call 46; refine (HDS.out w12 (HX0.out.later HBB12.out)).mono ?_; rintro e w13 ⟨rfl, hbn⟩; have HBB13 := Lib.hid (below_then HBB12.out hbn); have HA13 := Lib.hid (HA12.out.later hbn); have HB13 := Lib.hid (HB12.out.later hbn); clear hbn)
    refine hK.out _ _ (⟨HA13.out, HB13.out⟩) (fun hHeld => ?_)
    clear hK K
    try simp only [Act.put, List.setIfInBounds_toArray, List.set_cons_zero, List.set_cons_succ, List.getElem_toArray, List.getElem_cons_zero, List.getElem_cons_succ]
    refine wpAnyH_ready (rs := [15]) (by kernel_rfl) (by simp) ?_
    refine AllReadyH.cons rfl (fun K hK => ?_) AllReadyH.nil
    go_simp
    (go_at_call 46; refine (HDT.out HSA.out w13 (HY0.out.later HBB13.out)).mono ?_; rintro e w14 ⟨rfl, hbn⟩; have HBB14 := Lib.hid (below_then HBB13.out hbn); have HA14 := Lib.hid (HA13.out.later hbn); have HB14 := Lib.hid (HB13.out.later hbn); clear hbn)
    refine hK.out _ _ (⟨HA14.out, HB14.out⟩) (fun hHeld => ?_)
    clear hK K
    try simp only [Act.put, List.setIfInBounds_toArray, List.set_cons_zero, List.set_cons_succ, List.getElem_toArray, List.getElem_cons_zero, List.getElem_cons_succ]
    refine wpAnyH_take (i := 16) (v := ?_) rfl (by kernel_rfl) (by kernel_rfl) (by kernel_rfl) (fun _ _ _ h => h) (Or.inl ⟨by rfl, ?_⟩) (by assumption) ?_
    rotate_left
    · intro w hSw
      have hcell := (fun W => (dg_eq_run d1 d1 HO1.out HO1.out W).trans (by rw [eqL_self]))
      clear hSw
      go_simp
      try with_reducible rfl
    try simp only [Act.put, List.setIfInBounds_toArray, List.set_cons_zero, List.set_cons_succ, List.getElem_toArray, List.getElem_cons_zero, List.getElem_cons_succ]
    refine wpAnyH_take (i := 17) (v := ?_) rfl (by kernel_rfl) (by kernel_rfl) (by kernel_rfl) (fun _ _ _ h => h) (Or.inl ⟨by rfl, ?_⟩) (by assumption) ?_
    rotate_left
    · intro w hSw
      (try dsimp only at hSw)
      go_simp
      try with_reducible rfl
    try simp only [Act.put, List.setIfInBounds_toArray, List.set_cons_zero, List.set_cons_succ, List.getElem_toArray, List.getElem_cons_zero, List.getElem_cons_succ]
    refine wpAnyH_take (i := 18) (v := ?_) rfl (by kernel_rfl) (by kernel_rfl) (by kernel_rfl) (fun _ _ _ h => h) (Or.inl ⟨by rfl, ?_⟩) (by assumption) ?_
    rotate_left
    · intro w hSw
      (try dsimp only at hSw)
      go_simp
      try with_reducible rfl
    try simp only [Act.put, List.setIfInBounds_toArray, List.set_cons_zero, List.set_cons_succ, List.getElem_toArray, List.getElem_cons_zero, List.getElem_cons_succ]
    refine wpAnyH_take (i := 19) (v := ?_) rfl (by kernel_rfl) (by kernel_rfl) (by kernel_rfl) (fun _ _ _ h => h) (Or.inl ⟨by rfl, ?_⟩) (by assumption) ?_
    rotate_left
    · intro w hSw
      (try dsimp only at hSw)
      go_simp
      try with_reducible rfl
    try simp only [Act.put, List.setIfInBounds_toArray, List.set_cons_zero, List.set_cons_succ, List.getElem_toArray, List.getElem_cons_zero, List.getElem_cons_succ]
    refine wpAnyH_done (by kernel_rfl) ?_ _
    clear hHeld
    go_wp2_with fail
    go_ret
    exact ⟨rfl, HBB14.out⟩
  · have hxy := HXY.out hs
    rcases Decidable.em (t = t') with e1 | e1
    · have heq := fun W => (HEQ.out W).trans (by rw [e1, eqL_self] : _ = Result.ok true W)
      rcases Decidable.em (n = n') with e2 | e2
      · have hnn : (n == n') = true := by rw [e2]; simp
        have h12 := H12.out (fun e3 => hs ⟨e1, e2, e3⟩)
        clear hs e1 e2
        have hc8 := (st_mem HTO.out HA9.out).c8
        have hc9 := (st_mem HTO.out HA9.out).c9
        have hd8 := (st_mem HUO.out HB9.out).c8
        have hd9 := (st_mem HUO.out HB9.out).c9
        have hr0 := (st_mem HTO.out HA9.out).r0
        have hs0 := (st_mem HUO.out HB9.out).r0
        have hcv1 := conv_any w9 _ A KA C ps (HX9.out)
        have hcv2 := conv_any w9 _ A' KB C' qs (HY9.out)
        have hcx := conv_any w9 _ A6 _ c6 mx HPx9.out
        have hcy := conv_any w9 _ A7 _ c7 my HPy9.out
        have hcz := conv_any w9 _ A8 _ c8 mz HPz9.out
        have hcp := conv_any w9 _ A9 _ c9 mp HPp9.out
        rw [HSX.out] at hcx
        rw [HSY.out] at hcy
        rw [HSZ.out] at hcz
        rw [HSP.out] at hcp
        rw [HS1.out] at hcv1
        rw [HS2.out] at hcv2
        go_wp2_with (first
          | ((with_reducible refine wpList_load_mid rfl 29 _ rfl w.heap.size 0 rfl (dl t) _ hr0 Try.underlying29 rfl HTS.out ?_))
          | ((with_reducible refine wpList_load_mid rfl 29 _ rfl (w.heap.size + 1) 0 rfl (dl t') _ hs0 Try.underlying29 rfl HUS.out ?_)))
        clear hc8 hc9 hd8 hd9 hr0 hs0 hcv1 hcv2 hcx hcy hcz hcp
        refine wp_region_held_drew (S := fun w' => Bk w' w.heap.size 31 (staC n t (.slice A KA C)) ∧ Bk w' (w.heap.size + 1) 31 (staC n' t' (.slice A' KB C'))) (by kernel_rfl) ⟨Bk.drew HA9.out, Bk.drew HB9.out⟩ (fun hHeld => ?_)
        refine wpAnyH_ready (rs := [0]) (by kernel_rfl) (by simp) ?_
        refine AllReadyH.cons rfl (fun K hK => ?_) AllReadyH.nil
        go_simp
        (go_at_call 45; refine (stold_any w9.drew).mono ?_; rintro e w10 ⟨rfl, hbn⟩; have hbn := (below_draws w9 _ 1).trans hbn; have HBB10 := Lib.hid (below_then HBB9.out hbn); have HA10 := Lib.hid (HA9.out.later hbn); have HB10 := Lib.hid (HB9.out.later hbn); have HPx10 := Lib.hid (HPx9.out.later hbn); clear hbn)
        refine hK.out _ _ (⟨HA10.out, HB10.out⟩) (fun hHeld => ?_)
        clear hK K
        try simp only [Act.put, List.setIfInBounds_toArray, List.set_cons_zero, List.set_cons_succ, List.getElem_toArray, List.getElem_cons_zero, List.getElem_cons_succ]
        refine wpAnyH_take (i := 1) (v := ?_) rfl (by kernel_rfl) (by kernel_rfl) (by kernel_rfl) (fun _ _ _ h => h) (Or.inl ⟨by rfl, ?_⟩) (by assumption) ?_
        rotate_left
        · intro w hSw
          (try dsimp only at hSw)
          go_simp
          try with_reducible rfl
        try simp only [Act.put, List.setIfInBounds_toArray, List.set_cons_zero, List.set_cons_succ, List.getElem_toArray, List.getElem_cons_zero, List.getElem_cons_succ]
        refine wpAnyH_take (i := 2) (v := .agg (List.toArray (staC n t (.slice A KA C)))) rfl (by kernel_rfl) (by kernel_rfl) (by kernel_rfl) (fun _ _ _ h => h) (yieldsIf_load_mid (by rfl) _ _ rfl _ _ rfl (staC n t (.slice A KA C)) _ (fun w hSw => (Bk.range (pre := []) (post := []) (by simpa using hSw.1) rfl)) Try.underlying31 rfl (HAZ.out)) (by assumption) ?_
        try simp only [Act.put, List.setIfInBounds_toArray, List.set_cons_zero, List.set_cons_succ, List.getElem_toArray, List.getElem_cons_zero, List.getElem_cons_succ]
        refine wpAnyH_take (i := 4) (v := ?_) rfl (by kernel_rfl) (by kernel_rfl) (by kernel_rfl) (fun _ _ _ h => h) (Or.inl ⟨by rfl, ?_⟩) (by assumption) ?_
        rotate_left
        · intro w hSw
          (try dsimp only at hSw)
          go_simp
          try with_reducible rfl
        try simp only [Act.put, List.setIfInBounds_toArray, List.set_cons_zero, List.set_cons_succ, List.getElem_toArray, List.getElem_cons_zero, List.getElem_cons_succ]
        refine wpAnyH_ready (rs := [3]) (by kernel_rfl) (by simp) ?_
        refine AllReadyH.cons rfl (fun K hK => ?_) AllReadyH.nil
        go_simp
        (go_at_call 46; refine (HDS.out w10 (HX0.out.later HBB10.out)).mono ?_; rintro e w11 ⟨rfl, hbn⟩; have HBB11 := Lib.hid (below_then HBB10.out hbn); have HA11 := Lib.hid (HA10.out.later hbn); have HB11 := Lib.hid (HB10.out.later hbn); have HPx11 := Lib.hid (HPx10.out.later hbn); clear hbn)
        refine hK.out _ _ (⟨HA11.out, HB11.out⟩) (fun hHeld => ?_)
        clear hK K
        try simp only [Act.put, List.setIfInBounds_toArray, List.set_cons_zero, List.set_cons_succ, List.getElem_toArray, List.getElem_cons_zero, List.getElem_cons_succ]
        refine wpAnyH_ready (rs := [5]) (by kernel_rfl) (by simp) ?_
        refine AllReadyH.cons rfl (fun K hK => ?_) AllReadyH.nil
        go_simp
        (go_at_call 47; refine (HOF.out w11 A6 c6 HPx11.out).mono ?_; rintro e w12 ⟨rfl, hbn⟩; have HBB12 := Lib.hid (below_then HBB11.out hbn); have HA12 := Lib.hid (HA11.out.later hbn); have HB12 := Lib.hid (HB11.out.later hbn); clear hbn)
        refine hK.out _ _ (⟨HA12.out, HB12.out⟩) (fun hHeld => ?_)
        clear hK K
        try simp only [Act.put, List.setIfInBounds_toArray, List.set_cons_zero, List.set_cons_succ, List.getElem_toArray, List.getElem_cons_zero, List.getElem_cons_succ]
        refine wpAnyH_take (i := 6) (v := ?_) rfl (by kernel_rfl) (by kernel_rfl) (by kernel_rfl) (fun _ _ _ h => h) (Or.inl ⟨by rfl, ?_⟩) (by assumption) ?_
        rotate_left
        · intro w hSw
          have hcell := (fun W => (dg_eq_run d1 d1 HO1.out HO1.out W).trans (by rw [eqL_self]))
          clear hSw
          go_simp
          try with_reducible rfl
        try simp only [Act.put, List.setIfInBounds_toArray, List.set_cons_zero, List.set_cons_succ, List.getElem_toArray, List.getElem_cons_zero, List.getElem_cons_succ]
        refine wpAnyH_take (i := 7) (v := ?_) rfl (by kernel_rfl) (by kernel_rfl) (by kernel_rfl) (fun _ _ _ h => h) (Or.inl ⟨by rfl, ?_⟩) (by assumption) ?_
        rotate_left
        · intro w hSw
          (try dsimp only at hSw)
          go_simp
          try with_reducible rfl
        try simp only [Act.put, List.setIfInBounds_toArray, List.set_cons_zero, List.set_cons_succ, List.getElem_toArray, List.getElem_cons_zero, List.getElem_cons_succ]
        refine wpAnyH_take (i := 8) (v := ?_) rfl (by kernel_rfl) (by kernel_rfl) (by kernel_rfl) (fun _ _ _ h => h) (Or.inl ⟨by rfl, ?_⟩) (by assumption) ?_
        rotate_left
        · intro w hSw
          (try dsimp only at hSw)
          go_simp
          try with_reducible rfl
        try simp only [Act.put, List.setIfInBounds_toArray, List.set_cons_zero, List.set_cons_succ, List.getElem_toArray, List.getElem_cons_zero, List.getElem_cons_succ]
        refine wpAnyH_take (i := 9) (v := ?_) rfl (by kernel_rfl) (by kernel_rfl) (by kernel_rfl) (fun _ _ _ h => h) (Or.inl ⟨by rfl, ?_⟩) (by assumption) ?_
        rotate_left
        · intro w hSw
          (try dsimp only at hSw)
          go_simp
          try with_reducible rfl
        try simp only [Act.put, List.setIfInBounds_toArray, List.set_cons_zero, List.set_cons_succ, List.getElem_toArray, List.getElem_cons_zero, List.getElem_cons_succ]
        refine wpAnyH_take (i := 10) (v := ?_) rfl (by kernel_rfl) (by kernel_rfl) (by kernel_rfl) (fun _ _ _ h => h) (Or.inl ⟨by rfl, ?_⟩) (by assumption) ?_
        rotate_left
        · intro w hSw
          (try dsimp only at hSw)
          go_simp
          try with_reducible rfl
        try simp only [Act.put, List.setIfInBounds_toArray, List.set_cons_zero, List.set_cons_succ, List.getElem_toArray, List.getElem_cons_zero, List.getElem_cons_succ]
        refine wpAnyH_take (i := 11) (v := ?_) rfl (by kernel_rfl) (by kernel_rfl) (by kernel_rfl) (fun _ _ _ h => h) (Or.inl ⟨by rfl, ?_⟩) (by assumption) ?_
        rotate_left
        · intro w hSw
          (try dsimp only at hSw)
          go_simp
          try with_reducible rfl
        try simp only [Act.put, List.setIfInBounds_toArray, List.set_cons_zero, List.set_cons_succ, List.getElem_toArray, List.getElem_cons_zero, List.getElem_cons_succ]
        refine wpAnyH_take (i := 12) (v := undef) rfl (by kernel_rfl) (by kernel_rfl) (by kernel_rfl) (fun _ _ _ h => h) (Or.inr ⟨by rfl, rfl⟩) (by assumption) ?_
        try simp only [Act.put, List.setIfInBounds_toArray, List.set_cons_zero, List.set_cons_succ, List.getElem_toArray, List.getElem_cons_zero, List.getElem_cons_succ]
        refine wpAnyH_take (i := 13) (v := undef) rfl (by kernel_rfl) (by kernel_rfl) (by kernel_rfl) (fun _ _ _ h => h) (Or.inr ⟨by rfl, rfl⟩) (by assumption) ?_
        try simp only [Act.put, List.setIfInBounds_toArray, List.set_cons_zero, List.set_cons_succ, List.getElem_toArray, List.getElem_cons_zero, List.getElem_cons_succ]
        refine wpAnyH_take (i := 14) (v := undef) rfl (by kernel_rfl) (by kernel_rfl) (by kernel_rfl) (fun _ _ _ h => h) (Or.inr ⟨by rfl, rfl⟩) (by assumption) ?_
        try simp only [Act.put, List.setIfInBounds_toArray, List.set_cons_zero, List.set_cons_succ, List.getElem_toArray, List.getElem_cons_zero, List.getElem_cons_succ]
        refine wpAnyH_take (i := 15) (v := undef) rfl (by kernel_rfl) (by kernel_rfl) (by kernel_rfl) (fun _ _ _ h => h) (Or.inr ⟨by rfl, rfl⟩) (by assumption) ?_
        try simp only [Act.put, List.setIfInBounds_toArray, List.set_cons_zero, List.set_cons_succ, List.getElem_toArray, List.getElem_cons_zero, List.getElem_cons_succ]
        refine wpAnyH_take (i := 16) (v := undef) rfl (by kernel_rfl) (by kernel_rfl) (by kernel_rfl) (fun _ _ _ h => h) (Or.inr ⟨by rfl, rfl⟩) (by assumption) ?_
        try simp only [Act.put, List.setIfInBounds_toArray, List.set_cons_zero, List.set_cons_succ, List.getElem_toArray, List.getElem_cons_zero, List.getElem_cons_succ]
        refine wpAnyH_take (i := 17) (v := ?_) rfl (by kernel_rfl) (by kernel_rfl) (by kernel_rfl) (fun _ _ _ h => h) (Or.inl ⟨by rfl, ?_⟩) (by assumption) ?_
        rotate_left
        · intro w hSw
          (try dsimp only at hSw)
          go_simp
          try with_reducible rfl
        try simp only [Act.put, List.setIfInBounds_toArray, List.set_cons_zero, List.set_cons_succ, List.getElem_toArray, List.getElem_cons_zero, List.getElem_cons_succ]
        refine wpAnyH_take (i := 18) (v := ?_) rfl (by kernel_rfl) (by kernel_rfl) (by kernel_rfl) (fun _ _ _ h => h) (Or.inl ⟨by rfl, ?_⟩) (by assumption) ?_
        rotate_left
        · intro w hSw
          (try dsimp only at hSw)
          go_simp
          try with_reducible rfl
        try simp only [Act.put, List.setIfInBounds_toArray, List.set_cons_zero, List.set_cons_succ, List.getElem_toArray, List.getElem_cons_zero, List.getElem_cons_succ]
        refine wpAnyH_take (i := 19) (v := ?_) rfl (by kernel_rfl) (by kernel_rfl) (by kernel_rfl) (fun _ _ _ h => h) (Or.inl ⟨by rfl, ?_⟩) (by assumption) ?_
        rotate_left
        · intro w hSw
          (try dsimp only at hSw)
          go_simp
          try with_reducible rfl
        try simp only [Act.put, List.setIfInBounds_toArray, List.set_cons_zero, List.set_cons_succ, List.getElem_toArray, List.getElem_cons_zero, List.getElem_cons_succ]
        refine wpAnyH_done (by kernel_rfl) ?_ _
        clear hHeld
        go_wp2_with fail
        go_ret
        exact ⟨rfl, HBB12.out⟩
      · have hnn : (n == n') = false := by simp [e2]
        clear hs e1 e2
        have hc8 := (st_mem HTO.out HA9.out).c8
        have hc9 := (st_mem HTO.out HA9.out).c9
        have hd8 := (st_mem HUO.out HB9.out).c8
        have hd9 := (st_mem HUO.out HB9.out).c9
        have hr0 := (st_mem HTO.out HA9.out).r0
        have hs0 := (st_mem HUO.out HB9.out).r0
        have hcv1 := conv_any w9 _ A KA C ps (HX9.out)
        have hcv2 := conv_any w9 _ A' KB C' qs (HY9.out)
        have hcx := conv_any w9 _ A6 _ c6 mx HPx9.out
        have hcy := conv_any w9 _ A7 _ c7 my HPy9.out
        have hcz := conv_any w9 _ A8 _ c8 mz HPz9.out
        have hcp := conv_any w9 _ A9 _ c9 mp HPp9.out
        rw [HSX.out] at hcx
        rw [HSY.out] at hcy
        rw [HSZ.out] at hcz
        rw [HSP.out] at hcp
        rw [HS1.out] at hcv1
        rw [HS2.out] at hcv2
        go_wp2_with (first
          | ((with_reducible refine wpList_load_mid rfl 29 _ rfl w.heap.size 0 rfl (dl t) _ hr0 Try.underlying29 rfl HTS.out ?_))
          | ((with_reducible refine wpList_load_mid rfl 29 _ rfl (w.heap.size + 1) 0 rfl (dl t') _ hs0 Try.underlying29 rfl HUS.out ?_)))
        clear hc8 hc9 hd8 hd9 hr0 hs0 hcv1 hcv2 hcx hcy hcz hcp
        refine wp_region_held_drew (S := fun w' => Bk w' w.heap.size 31 (staC n t (.slice A KA C)) ∧ Bk w' (w.heap.size + 1) 31 (staC n' t' (.slice A' KB C'))) (by kernel_rfl) ⟨Bk.drew HA9.out, Bk.drew HB9.out⟩ (fun hHeld => ?_)
        refine wpAnyH_ready (rs := [0]) (by kernel_rfl) (by simp) ?_
        refine AllReadyH.cons rfl (fun K hK => ?_) AllReadyH.nil
        go_simp
        (go_at_call 45; refine (stold_any w9.drew).mono ?_; rintro e w10 ⟨rfl, hbn⟩; have hbn := (below_draws w9 _ 1).trans hbn; have HBB10 := Lib.hid (below_then HBB9.out hbn); have HA10 := Lib.hid (HA9.out.later hbn); have HB10 := Lib.hid (HB9.out.later hbn); have HPx10 := Lib.hid (HPx9.out.later hbn); clear hbn)
        refine hK.out _ _ (⟨HA10.out, HB10.out⟩) (fun hHeld => ?_)
        clear hK K
        try simp only [Act.put, List.setIfInBounds_toArray, List.set_cons_zero, List.set_cons_succ, List.getElem_toArray, List.getElem_cons_zero, List.getElem_cons_succ]
        refine wpAnyH_take (i := 1) (v := ?_) rfl (by kernel_rfl) (by kernel_rfl) (by kernel_rfl) (fun _ _ _ h => h) (Or.inl ⟨by rfl, ?_⟩) (by assumption) ?_
        rotate_left
        · intro w hSw
          (try dsimp only at hSw)
          go_simp
          try with_reducible rfl
        try simp only [Act.put, List.setIfInBounds_toArray, List.set_cons_zero, List.set_cons_succ, List.getElem_toArray, List.getElem_cons_zero, List.getElem_cons_succ]
        refine wpAnyH_take (i := 2) (v := .agg (List.toArray (staC n t (.slice A KA C)))) rfl (by kernel_rfl) (by kernel_rfl) (by kernel_rfl) (fun _ _ _ h => h) (yieldsIf_load_mid (by rfl) _ _ rfl _ _ rfl (staC n t (.slice A KA C)) _ (fun w hSw => (Bk.range (pre := []) (post := []) (by simpa using hSw.1) rfl)) Try.underlying31 rfl (HAZ.out)) (by assumption) ?_
        try simp only [Act.put, List.setIfInBounds_toArray, List.set_cons_zero, List.set_cons_succ, List.getElem_toArray, List.getElem_cons_zero, List.getElem_cons_succ]
        refine wpAnyH_take (i := 4) (v := ?_) rfl (by kernel_rfl) (by kernel_rfl) (by kernel_rfl) (fun _ _ _ h => h) (Or.inl ⟨by rfl, ?_⟩) (by assumption) ?_
        rotate_left
        · intro w hSw
          (try dsimp only at hSw)
          go_simp
          try with_reducible rfl
        try simp only [Act.put, List.setIfInBounds_toArray, List.set_cons_zero, List.set_cons_succ, List.getElem_toArray, List.getElem_cons_zero, List.getElem_cons_succ]
        refine wpAnyH_ready (rs := [3]) (by kernel_rfl) (by simp) ?_
        refine AllReadyH.cons rfl (fun K hK => ?_) AllReadyH.nil
        go_simp
        (go_at_call 46; refine (HDS.out w10 (HX0.out.later HBB10.out)).mono ?_; rintro e w11 ⟨rfl, hbn⟩; have HBB11 := Lib.hid (below_then HBB10.out hbn); have HA11 := Lib.hid (HA10.out.later hbn); have HB11 := Lib.hid (HB10.out.later hbn); have HPx11 := Lib.hid (HPx10.out.later hbn); clear hbn)
        refine hK.out _ _ (⟨HA11.out, HB11.out⟩) (fun hHeld => ?_)
        clear hK K
        try simp only [Act.put, List.setIfInBounds_toArray, List.set_cons_zero, List.set_cons_succ, List.getElem_toArray, List.getElem_cons_zero, List.getElem_cons_succ]
        refine wpAnyH_ready (rs := [5]) (by kernel_rfl) (by simp) ?_
        refine AllReadyH.cons rfl (fun K hK => ?_) AllReadyH.nil
        go_simp
        (go_at_call 47; refine (HOF.out w11 A6 c6 HPx11.out).mono ?_; rintro e w12 ⟨rfl, hbn⟩; have HBB12 := Lib.hid (below_then HBB11.out hbn); have HA12 := Lib.hid (HA11.out.later hbn); have HB12 := Lib.hid (HB11.out.later hbn); clear hbn)
        refine hK.out _ _ (⟨HA12.out, HB12.out⟩) (fun hHeld => ?_)
        clear hK K
        try simp only [Act.put, List.setIfInBounds_toArray, List.set_cons_zero, List.set_cons_succ, List.getElem_toArray, List.getElem_cons_zero, List.getElem_cons_succ]
        refine wpAnyH_take (i := 6) (v := ?_) rfl (by kernel_rfl) (by kernel_rfl) (by kernel_rfl) (fun _ _ _ h => h) (Or.inl ⟨by rfl, ?_⟩) (by assumption) ?_
        rotate_left
        · intro w hSw
          have hcell := (fun W => (dg_eq_run d1 d1 HO1.out HO1.out W).trans (by rw [eqL_self]))
          clear hSw
          go_simp
          try with_reducible rfl
        try simp only [Act.put, List.setIfInBounds_toArray, List.set_cons_zero, List.set_cons_succ, List.getElem_toArray, List.getElem_cons_zero, List.getElem_cons_succ]
        refine wpAnyH_take (i := 7) (v := ?_) rfl (by kernel_rfl) (by kernel_rfl) (by kernel_rfl) (fun _ _ _ h => h) (Or.inl ⟨by rfl, ?_⟩) (by assumption) ?_
        rotate_left
        · intro w hSw
          (try dsimp only at hSw)
          go_simp
          try with_reducible rfl
        try simp only [Act.put, List.setIfInBounds_toArray, List.set_cons_zero, List.set_cons_succ, List.getElem_toArray, List.getElem_cons_zero, List.getElem_cons_succ]
        refine wpAnyH_take (i := 8) (v := ?_) rfl (by kernel_rfl) (by kernel_rfl) (by kernel_rfl) (fun _ _ _ h => h) (Or.inl ⟨by rfl, ?_⟩) (by assumption) ?_
        rotate_left
        · intro w hSw
          (try dsimp only at hSw)
          go_simp
          try with_reducible rfl
        try simp only [Act.put, List.setIfInBounds_toArray, List.set_cons_zero, List.set_cons_succ, List.getElem_toArray, List.getElem_cons_zero, List.getElem_cons_succ]
        refine wpAnyH_take (i := 9) (v := ?_) rfl (by kernel_rfl) (by kernel_rfl) (by kernel_rfl) (fun _ _ _ h => h) (Or.inl ⟨by rfl, ?_⟩) (by assumption) ?_
        rotate_left
        · intro w hSw
          (try dsimp only at hSw)
          go_simp
          try with_reducible rfl
        try simp only [Act.put, List.setIfInBounds_toArray, List.set_cons_zero, List.set_cons_succ, List.getElem_toArray, List.getElem_cons_zero, List.getElem_cons_succ]
        refine wpAnyH_take (i := 10) (v := ?_) rfl (by kernel_rfl) (by kernel_rfl) (by kernel_rfl) (fun _ _ _ h => h) (Or.inl ⟨by rfl, ?_⟩) (by assumption) ?_
        rotate_left
        · intro w hSw
          (try dsimp only at hSw)
          go_simp
          try with_reducible rfl
        try simp only [Act.put, List.setIfInBounds_toArray, List.set_cons_zero, List.set_cons_succ, List.getElem_toArray, List.getElem_cons_zero, List.getElem_cons_succ]
        refine wpAnyH_take (i := 11) (v := ?_) rfl (by kernel_rfl) (by kernel_rfl) (by kernel_rfl) (fun _ _ _ h => h) (Or.inl ⟨by rfl, ?_⟩) (by assumption) ?_
        rotate_left
        · intro w hSw
          (try dsimp only at hSw)
          go_simp
          try with_reducible rfl
        try simp only [Act.put, List.setIfInBounds_toArray, List.set_cons_zero, List.set_cons_succ, List.getElem_toArray, List.getElem_cons_zero, List.getElem_cons_succ]
        refine wpAnyH_take (i := 12) (v := undef) rfl (by kernel_rfl) (by kernel_rfl) (by kernel_rfl) (fun _ _ _ h => h) (Or.inr ⟨by rfl, rfl⟩) (by assumption) ?_
        try simp only [Act.put, List.setIfInBounds_toArray, List.set_cons_zero, List.set_cons_succ, List.getElem_toArray, List.getElem_cons_zero, List.getElem_cons_succ]
        refine wpAnyH_take (i := 13) (v := undef) rfl (by kernel_rfl) (by kernel_rfl) (by kernel_rfl) (fun _ _ _ h => h) (Or.inr ⟨by rfl, rfl⟩) (by assumption) ?_
        try simp only [Act.put, List.setIfInBounds_toArray, List.set_cons_zero, List.set_cons_succ, List.getElem_toArray, List.getElem_cons_zero, List.getElem_cons_succ]
        refine wpAnyH_take (i := 14) (v := undef) rfl (by kernel_rfl) (by kernel_rfl) (by kernel_rfl) (fun _ _ _ h => h) (Or.inr ⟨by rfl, rfl⟩) (by assumption) ?_
        try simp only [Act.put, List.setIfInBounds_toArray, List.set_cons_zero, List.set_cons_succ, List.getElem_toArray, List.getElem_cons_zero, List.getElem_cons_succ]
        refine wpAnyH_take (i := 15) (v := undef) rfl (by kernel_rfl) (by kernel_rfl) (by kernel_rfl) (fun _ _ _ h => h) (Or.inr ⟨by rfl, rfl⟩) (by assumption) ?_
        try simp only [Act.put, List.setIfInBounds_toArray, List.set_cons_zero, List.set_cons_succ, List.getElem_toArray, List.getElem_cons_zero, List.getElem_cons_succ]
        refine wpAnyH_take (i := 16) (v := undef) rfl (by kernel_rfl) (by kernel_rfl) (by kernel_rfl) (fun _ _ _ h => h) (Or.inr ⟨by rfl, rfl⟩) (by assumption) ?_
        try simp only [Act.put, List.setIfInBounds_toArray, List.set_cons_zero, List.set_cons_succ, List.getElem_toArray, List.getElem_cons_zero, List.getElem_cons_succ]
        refine wpAnyH_take (i := 17) (v := ?_) rfl (by kernel_rfl) (by kernel_rfl) (by kernel_rfl) (fun _ _ _ h => h) (Or.inl ⟨by rfl, ?_⟩) (by assumption) ?_
        rotate_left
        · intro w hSw
          (try dsimp only at hSw)
          go_simp
          try with_reducible rfl
        try simp only [Act.put, List.setIfInBounds_toArray, List.set_cons_zero, List.set_cons_succ, List.getElem_toArray, List.getElem_cons_zero, List.getElem_cons_succ]
        refine wpAnyH_take (i := 18) (v := ?_) rfl (by kernel_rfl) (by kernel_rfl) (by kernel_rfl) (fun _ _ _ h => h) (Or.inl ⟨by rfl, ?_⟩) (by assumption) ?_
        rotate_left
        · intro w hSw
          (try dsimp only at hSw)
          go_simp
          try with_reducible rfl
        try simp only [Act.put, List.setIfInBounds_toArray, List.set_cons_zero, List.set_cons_succ, List.getElem_toArray, List.getElem_cons_zero, List.getElem_cons_succ]
        refine wpAnyH_take (i := 19) (v := ?_) rfl (by kernel_rfl) (by kernel_rfl) (by kernel_rfl) (fun _ _ _ h => h) (Or.inl ⟨by rfl, ?_⟩) (by assumption) ?_
        rotate_left
        · intro w hSw
          (try dsimp only at hSw)
          go_simp
          try with_reducible rfl
        try simp only [Act.put, List.setIfInBounds_toArray, List.set_cons_zero, List.set_cons_succ, List.getElem_toArray, List.getElem_cons_zero, List.getElem_cons_succ]
        refine wpAnyH_done (by kernel_rfl) ?_ _
        clear hHeld
        go_wp2_with fail
        go_ret
        exact ⟨rfl, HBB12.out⟩
    · have heq := fun W => (HEQ.out W).trans (by rw [eqL, decide_eq_false e1] : _ = Result.ok false W)
      clear hs e1
      have hc8 := (st_mem HTO.out HA9.out).c8
      have hc9 := (st_mem HTO.out HA9.out).c9
      have hd8 := (st_mem HUO.out HB9.out).c8
      have hd9 := (st_mem HUO.out HB9.out).c9
      have hr0 := (st_mem HTO.out HA9.out).r0
      have hs0 := (st_mem HUO.out HB9.out).r0
      have hcv1 := conv_any w9 _ A KA C ps (HX9.out)
      have hcv2 := conv_any w9 _ A' KB C' qs (HY9.out)
      have hcx := conv_any w9 _ A6 _ c6 mx HPx9.out
      have hcy := conv_any w9 _ A7 _ c7 my HPy9.out
      have hcz := conv_any w9 _ A8 _ c8 mz HPz9.out
      have hcp := conv_any w9 _ A9 _ c9 mp HPp9.out
      rw [HSX.out] at hcx
      rw [HSY.out] at hcy
      rw [HSZ.out] at hcz
      rw [HSP.out] at hcp
      rw [HS1.out] at hcv1
      rw [HS2.out] at hcv2
      go_wp2_with (first
        | ((with_reducible refine wpList_load_mid rfl 29 _ rfl w.heap.size 0 rfl (dl t) _ hr0 Try.underlying29 rfl HTS.out ?_))
        | ((with_reducible refine wpList_load_mid rfl 29 _ rfl (w.heap.size + 1) 0 rfl (dl t') _ hs0 Try.underlying29 rfl HUS.out ?_)))
      clear hc8 hc9 hd8 hd9 hr0 hs0 hcv1 hcv2 hcx hcy hcz hcp
      refine wp_region_held_drew (S := fun w' => Bk w' w.heap.size 31 (staC n t (.slice A KA C)) ∧ Bk w' (w.heap.size + 1) 31 (staC n' t' (.slice A' KB C'))) (by kernel_rfl) ⟨Bk.drew HA9.out, Bk.drew HB9.out⟩ (fun hHeld => ?_)
      refine wpAnyH_ready (rs := [0]) (by kernel_rfl) (by simp) ?_
      refine AllReadyH.cons rfl (fun K hK => ?_) AllReadyH.nil
      go_simp
      (go_at_call 45; refine (stold_any w9.drew).mono ?_; rintro e w10 ⟨rfl, hbn⟩; have hbn := (below_draws w9 _ 1).trans hbn; have HBB10 := Lib.hid (below_then HBB9.out hbn); have HA10 := Lib.hid (HA9.out.later hbn); have HB10 := Lib.hid (HB9.out.later hbn); have HPx10 := Lib.hid (HPx9.out.later hbn); clear hbn)
      refine hK.out _ _ (⟨HA10.out, HB10.out⟩) (fun hHeld => ?_)
      clear hK K
      try simp only [Act.put, List.setIfInBounds_toArray, List.set_cons_zero, List.set_cons_succ, List.getElem_toArray, List.getElem_cons_zero, List.getElem_cons_succ]
      refine wpAnyH_take (i := 1) (v := ?_) rfl (by kernel_rfl) (by kernel_rfl) (by kernel_rfl) (fun _ _ _ h => h) (Or.inl ⟨by rfl, ?_⟩) (by assumption) ?_
      rotate_left
      · intro w hSw
        (try dsimp only at hSw)
        go_simp
        try with_reducible rfl
      try simp only [Act.put, List.setIfInBounds_toArray, List.set_cons_zero, List.set_cons_succ, List.getElem_toArray, List.getElem_cons_zero, List.getElem_cons_succ]
      refine wpAnyH_take (i := 2) (v := .agg (List.toArray (staC n t (.slice A KA C)))) rfl (by kernel_rfl) (by kernel_rfl) (by kernel_rfl) (fun _ _ _ h => h) (yieldsIf_load_mid (by rfl) _ _ rfl _ _ rfl (staC n t (.slice A KA C)) _ (fun w hSw => (Bk.range (pre := []) (post := []) (by simpa using hSw.1) rfl)) Try.underlying31 rfl (HAZ.out)) (by assumption) ?_
      try simp only [Act.put, List.setIfInBounds_toArray, List.set_cons_zero, List.set_cons_succ, List.getElem_toArray, List.getElem_cons_zero, List.getElem_cons_succ]
      refine wpAnyH_take (i := 4) (v := ?_) rfl (by kernel_rfl) (by kernel_rfl) (by kernel_rfl) (fun _ _ _ h => h) (Or.inl ⟨by rfl, ?_⟩) (by assumption) ?_
      rotate_left
      · intro w hSw
        (try dsimp only at hSw)
        go_simp
        try with_reducible rfl
      try simp only [Act.put, List.setIfInBounds_toArray, List.set_cons_zero, List.set_cons_succ, List.getElem_toArray, List.getElem_cons_zero, List.getElem_cons_succ]
      refine wpAnyH_ready (rs := [3]) (by kernel_rfl) (by simp) ?_
      refine AllReadyH.cons rfl (fun K hK => ?_) AllReadyH.nil
      go_simp
      (go_at_call 46; refine (HDS.out w10 (HX0.out.later HBB10.out)).mono ?_; rintro e w11 ⟨rfl, hbn⟩; have HBB11 := Lib.hid (below_then HBB10.out hbn); have HA11 := Lib.hid (HA10.out.later hbn); have HB11 := Lib.hid (HB10.out.later hbn); have HPx11 := Lib.hid (HPx10.out.later hbn); clear hbn)
      refine hK.out _ _ (⟨HA11.out, HB11.out⟩) (fun hHeld => ?_)
      clear hK K
      try simp only [Act.put, List.setIfInBounds_toArray, List.set_cons_zero, List.set_cons_succ, List.getElem_toArray, List.getElem_cons_zero, List.getElem_cons_succ]
      refine wpAnyH_ready (rs := [5]) (by kernel_rfl) (by simp) ?_
      refine AllReadyH.cons rfl (fun K hK => ?_) AllReadyH.nil
      go_simp
      (go_at_call 47; refine (HOF.out w11 A6 c6 HPx11.out).mono ?_; rintro e w12 ⟨rfl, hbn⟩; have HBB12 := Lib.hid (below_then HBB11.out hbn); have HA12 := Lib.hid (HA11.out.later hbn); have HB12 := Lib.hid (HB11.out.later hbn); clear hbn)
      refine hK.out _ _ (⟨HA12.out, HB12.out⟩) (fun hHeld => ?_)
      clear hK K
      try simp only [Act.put, List.setIfInBounds_toArray, List.set_cons_zero, List.set_cons_succ, List.getElem_toArray, List.getElem_cons_zero, List.getElem_cons_succ]
      refine wpAnyH_take (i := 6) (v := ?_) rfl (by kernel_rfl) (by kernel_rfl) (by kernel_rfl) (fun _ _ _ h => h) (Or.inl ⟨by rfl, ?_⟩) (by assumption) ?_
      rotate_left
      · intro w hSw
        have hcell := (fun W => (dg_eq_run d1 d1 HO1.out HO1.out W).trans (by rw [eqL_self]))
        clear hSw
        go_simp
        try with_reducible rfl
      try simp only [Act.put, List.setIfInBounds_toArray, List.set_cons_zero, List.set_cons_succ, List.getElem_toArray, List.getElem_cons_zero, List.getElem_cons_succ]
      refine wpAnyH_take (i := 7) (v := ?_) rfl (by kernel_rfl) (by kernel_rfl) (by kernel_rfl) (fun _ _ _ h => h) (Or.inl ⟨by rfl, ?_⟩) (by assumption) ?_
      rotate_left
      · intro w hSw
        (try dsimp only at hSw)
        go_simp
        try with_reducible rfl
      try simp only [Act.put, List.setIfInBounds_toArray, List.set_cons_zero, List.set_cons_succ, List.getElem_toArray, List.getElem_cons_zero, List.getElem_cons_succ]
      refine wpAnyH_take (i := 8) (v := ?_) rfl (by kernel_rfl) (by kernel_rfl) (by kernel_rfl) (fun _ _ _ h => h) (Or.inl ⟨by rfl, ?_⟩) (by assumption) ?_
      rotate_left
      · intro w hSw
        (try dsimp only at hSw)
        go_simp
        try with_reducible rfl
      try simp only [Act.put, List.setIfInBounds_toArray, List.set_cons_zero, List.set_cons_succ, List.getElem_toArray, List.getElem_cons_zero, List.getElem_cons_succ]
      refine wpAnyH_take (i := 9) (v := ?_) rfl (by kernel_rfl) (by kernel_rfl) (by kernel_rfl) (fun _ _ _ h => h) (Or.inl ⟨by rfl, ?_⟩) (by assumption) ?_
      rotate_left
      · intro w hSw
        (try dsimp only at hSw)
        go_simp
        try with_reducible rfl
      try simp only [Act.put, List.setIfInBounds_toArray, List.set_cons_zero, List.set_cons_succ, List.getElem_toArray, List.getElem_cons_zero, List.getElem_cons_succ]
      refine wpAnyH_take (i := 10) (v := ?_) rfl (by kernel_rfl) (by kernel_rfl) (by kernel_rfl) (fun _ _ _ h => h) (Or.inl ⟨by rfl, ?_⟩) (by assumption) ?_
      rotate_left
      · intro w hSw
        (try dsimp only at hSw)
        go_simp
        try with_reducible rfl
      try simp only [Act.put, List.setIfInBounds_toArray, List.set_cons_zero, List.set_cons_succ, List.getElem_toArray, List.getElem_cons_zero, List.getElem_cons_succ]
      refine wpAnyH_take (i := 11) (v := ?_) rfl (by kernel_rfl) (by kernel_rfl) (by kernel_rfl) (fun _ _ _ h => h) (Or.inl ⟨by rfl, ?_⟩) (by assumption) ?_
      rotate_left
      · intro w hSw
        (try dsimp only at hSw)
        go_simp
        try with_reducible rfl
      try simp only [Act.put, List.setIfInBounds_toArray, List.set_cons_zero, List.set_cons_succ, List.getElem_toArray, List.getElem_cons_zero, List.getElem_cons_succ]
      refine wpAnyH_take (i := 12) (v := undef) rfl (by kernel_rfl) (by kernel_rfl) (by kernel_rfl) (fun _ _ _ h => h) (Or.inr ⟨by rfl, rfl⟩) (by assumption) ?_
      try simp only [Act.put, List.setIfInBounds_toArray, List.set_cons_zero, List.set_cons_succ, List.getElem_toArray, List.getElem_cons_zero, List.getElem_cons_succ]
      refine wpAnyH_take (i := 13) (v := undef) rfl (by kernel_rfl) (by kernel_rfl) (by kernel_rfl) (fun _ _ _ h => h) (Or.inr ⟨by rfl, rfl⟩) (by assumption) ?_
      try simp only [Act.put, List.setIfInBounds_toArray, List.set_cons_zero, List.set_cons_succ, List.getElem_toArray, List.getElem_cons_zero, List.getElem_cons_succ]
      refine wpAnyH_take (i := 14) (v := undef) rfl (by kernel_rfl) (by kernel_rfl) (by kernel_rfl) (fun _ _ _ h => h) (Or.inr ⟨by rfl, rfl⟩) (by assumption) ?_
      try simp only [Act.put, List.setIfInBounds_toArray, List.set_cons_zero, List.set_cons_succ, List.getElem_toArray, List.getElem_cons_zero, List.getElem_cons_succ]
      refine wpAnyH_take (i := 15) (v := undef) rfl (by kernel_rfl) (by kernel_rfl) (by kernel_rfl) (fun _ _ _ h => h) (Or.inr ⟨by rfl, rfl⟩) (by assumption) ?_
      try simp only [Act.put, List.setIfInBounds_toArray, List.set_cons_zero, List.set_cons_succ, List.getElem_toArray, List.getElem_cons_zero, List.getElem_cons_succ]
      refine wpAnyH_take (i := 16) (v := undef) rfl (by kernel_rfl) (by kernel_rfl) (by kernel_rfl) (fun _ _ _ h => h) (Or.inr ⟨by rfl, rfl⟩) (by assumption) ?_
      try simp only [Act.put, List.setIfInBounds_toArray, List.set_cons_zero, List.set_cons_succ, List.getElem_toArray, List.getElem_cons_zero, List.getElem_cons_succ]
      refine wpAnyH_take (i := 17) (v := ?_) rfl (by kernel_rfl) (by kernel_rfl) (by kernel_rfl) (fun _ _ _ h => h) (Or.inl ⟨by rfl, ?_⟩) (by assumption) ?_
      rotate_left
      · intro w hSw
        (try dsimp only at hSw)
        go_simp
        try with_reducible rfl
      try simp only [Act.put, List.setIfInBounds_toArray, List.set_cons_zero, List.set_cons_succ, List.getElem_toArray, List.getElem_cons_zero, List.getElem_cons_succ]
      refine wpAnyH_take (i := 18) (v := ?_) rfl (by kernel_rfl) (by kernel_rfl) (by kernel_rfl) (fun _ _ _ h => h) (Or.inl ⟨by rfl, ?_⟩) (by assumption) ?_
      rotate_left
      · intro w hSw
        (try dsimp only at hSw)
        go_simp
        try with_reducible rfl
      try simp only [Act.put, List.setIfInBounds_toArray, List.set_cons_zero, List.set_cons_succ, List.getElem_toArray, List.getElem_cons_zero, List.getElem_cons_succ]
      refine wpAnyH_take (i := 19) (v := ?_) rfl (by kernel_rfl) (by kernel_rfl) (by kernel_rfl) (fun _ _ _ h => h) (Or.inl ⟨by rfl, ?_⟩) (by assumption) ?_
      rotate_left
      · intro w hSw
        (try dsimp only at hSw)
        go_simp
        try with_reducible rfl
      try simp only [Act.put, List.setIfInBounds_toArray, List.set_cons_zero, List.set_cons_succ, List.getElem_toArray, List.getElem_cons_zero, List.getElem_cons_succ]
      refine wpAnyH_done (by kernel_rfl) ?_ _
      clear hHeld
      go_wp2_with fail
      go_ret
      exact ⟨rfl, HBB12.out⟩
end Go.Proofs.Ythibihjblodfmaa
