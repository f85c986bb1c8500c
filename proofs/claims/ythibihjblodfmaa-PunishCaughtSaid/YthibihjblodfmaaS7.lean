/- Of all states, acts and payouts it is told what is signed: the walk. -/
import Derived.Test.YthibihjblodfmaaS6
namespace Go.Proofs.Ythibihjblodfmaa
open Go.RowKit Go.Maps

def bodyC (p : Value) (a : List Int) (q : Value) : List Value := p :: (dl a ++ [q])
theorem bodyC_len {p q : Value} {a : List Int} (h : DgOk a) : (bodyC p a q).length = 10 := by simp [bodyC, dl_len, h.len]
structure BoM (w : World) (g : Nat) (p : Value) (a : List Int) (q : Value) : Prop where
  c0 : w.cell? ⟨g, 0, none⟩ = some p
  c9 : w.cell? ⟨g, 9, none⟩ = some q
  r1 : w.rangeAt g 1 (dl a)
theorem bo_mem {w : World} {g : Nat} {p q : Value} {a : List Int} {ty : TypeId} (ha : DgOk a) (h : Bk w g ty (bodyC p a q)) : BoM w g p a q := by
  have h1 : Bk w g ty ([] ++ p :: (dl a ++ [q])) := h
  have h2 : Bk w g ty ((p :: dl a) ++ q :: []) := by simpa [bodyC] using h
  have h3 : Bk w g ty ([p] ++ (dl a ++ [q])) := by simpa [bodyC] using h
  exact ⟨h1.at1 rfl, h2.at1 (by simp [dl_len, ha.len]), h3.range rfl⟩
theorem build_acl {n : Int} {t a : List Int} (ht : DgOk t) (ha : DgOk a) (A : Option Addr) (N C : Nat) (w : World) : (Instr.build 33 #[(0, .agg (dl t).toArray), (1, .int .i64 n), (2, .agg (dl a).toArray), (3, .slice A N C)]).run Try.prog w = .ok (.agg (actC n t a (.slice A N C)).toArray) w := by
  obtain ⟨x0, x1, x2, x3, x4, x5, x6, x7, rfl⟩ := list8 t ht.len
  obtain ⟨y0, y1, y2, y3, y4, y5, y6, y7, rfl⟩ := list8 a ha.len
  kernel_rfl
theorem build_py {t : List Int} (ht : DgOk t) (A : Option Addr) (N C : Nat) (w : World) : (Instr.build 98 #[(0, .agg (dl t).toArray), (1, .slice A N C)]).run Try.prog w = .ok (.agg (pyC t (.slice A N C)).toArray) w := by
  obtain ⟨x0, x1, x2, x3, x4, x5, x6, x7, rfl⟩ := list8 t ht.len
  kernel_rfl
theorem DgOk.one {d : List Int} (_ : DgOk d) : ∀ v ∈ dl d, v.oneCell' = true := dl_one' d
set_option maxRecDepth 20000 in
set_option maxHeartbeats 4000000 in
theorem digests_any (w : World) (t : List Int) (ht : DgOk t) (n : Int) (hn : -9223372036854775808 ≤ n ∧ n < 9223372036854775808) (a : List Int) (ha : DgOk a) (A B : Option Addr) (N C M D : Nat) (bs zs : List Int) (hNC : N ≤ C) (hMD : M ≤ D)
    (hb : Sl w w.heap.size 1 A N (bs.map (.int .u8))) (hz : Sl w w.heap.size 1 B M (zs.map (.int .i64))) (hbo : ByOk bs) (hzo : I64Ok zs) :
    Calls Try.prog 11 #[.agg (dl t).toArray, .int .i64 n, .agg (bodyC (.slice A N C) a (.slice B M D)).toArray] w fun e w' => e = .returned (.bool true) ∧ Below w.heap.size w w' := by
  obtain ⟨X, hX⟩ : ∃ X, (dl t).toArray = X := ⟨_, rfl⟩
  obtain ⟨Y, hY⟩ : ∃ Y, (bodyC (.slice A N C) a (.slice B M D)).toArray = Y := ⟨_, rfl⟩
  obtain ⟨w1, hw1⟩ : ∃ w1, (w.alloc (.cells X 29)).alloc (.cells Y 96) = w1 := ⟨_, rfl⟩
  have hb1 : Below w.heap.size w w1 := hw1 ▸ (below_new w _).alloc (by simp) _
  have kx : Bk w1 w.heap.size 29 (dl t) := hw1 ▸ (Bk.new' w _ X (by rw [← hX])).alloc _
  have ky : Bk w1 (w.heap.size + 1) 96 (bodyC (.slice A N C) a (.slice B M D)) := hw1 ▸ Bk.at_ _ _ Y (by simp) (by rw [← hY])
  have HW := Lib.hid hw1; have HBB1 := Lib.hid hb1; have HT1 := Lib.hid kx; have HY1 := Lib.hid ky; have HTO := Lib.hid ht; have HAO := Lib.hid ha
  have HTS := Lib.hid (hdg_size t ht); have HAS := Lib.hid (hdg_size a ha)
  have hn0 : Hid (-9223372036854775808 ≤ n) := hn.1
  have hn1 : Hid (n < 9223372036854775808) := hn.2
  obtain ⟨K, hK⟩ : ∃ K, min N 5000 = K := ⟨_, rfl⟩
  obtain ⟨L, hL⟩ : ∃ L, min M 20 = L := ⟨_, rfl⟩
  have hK1 : K ≤ 5000 := by omega
  have hL1 : L ≤ 20 := by omega
  have HX1 := Lib.hid ((hb.head1 (k := K) (by omega)).later hb1); have HZ1 := Lib.hid ((hz.head1 (k := L) (by omega)).later hb1)
  have HBO : Hid (ByOk (bs.take K)) := hbo.take K
  have HZO : Hid (I64Ok (zs.take L)) := fun z h => hzo z (List.mem_of_mem_take h)
  obtain ⟨xs, hxs⟩ : ∃ xs, bs.take K = xs := ⟨_, rfl⟩
  obtain ⟨ys, hys⟩ : ∃ ys, zs.take L = ys := ⟨_, rfl⟩
  rw [hxs] at HX1 HBO
  rw [hys] at HZ1 HZO
  have hmin := fun ts t => min_run (P := Try.prog) ts t M 20 20 rfl
  rw [hL] at hmin
  have hhd := run_headI B M D L (by omega)
  have HFEW := Lib.hid (fun w => few_any w A N C hNC)
  rw [hK] at HFEW
  obtain ⟨m1, hm1⟩ : ∃ m, stB t n xs = m := ⟨_, rfl⟩
  obtain ⟨m2, hm2⟩ : ∃ m, acB t n a xs = m := ⟨_, rfl⟩
  obtain ⟨m3, hm3⟩ : ∃ m, pyB t ys = m := ⟨_, rfl⟩
  obtain ⟨d1, hd1⟩ : ∃ d, ofI m1 = d := ⟨_, rfl⟩
  obtain ⟨d2, hd2⟩ : ∃ d, ofI m2 = d := ⟨_, rfl⟩
  obtain ⟨d3, hd3⟩ : ∃ d, ofI m3 = d := ⟨_, rfl⟩
  have HO1 : Hid (DgOk d1) := by show DgOk _; rw [← hd1]; exact ofI_ok _
  have HO2 : Hid (DgOk d2) := by show DgOk _; rw [← hd2]; exact ofI_ok _
  have HO3 : Hid (DgOk d3) := by show DgOk _; rw [← hd3]; exact ofI_ok _
  have hlx := HX1.out.length; have hly := HZ1.out.length
  have HM1 : Hid (ByOk m1) := by show ByOk _; rw [← hm1]; exact stB_ok ht HBO.out hn0.out hn1.out (by omega)
  have HM2 : Hid (ByOk m2) := by show ByOk _; rw [← hm2]; exact acB_ok ht ha HBO.out hn0.out hn1.out (by omega)
  have HM3 : Hid (ByOk m3) := by show ByOk _; rw [← hm3]; exact pyB_ok ht HZO.out (by omega)
  have HL1 : Hid (m1.length ≤ 10000) := by show _ ≤ _; rw [← hm1]; have := stB_le (n := n) (p := xs) ht; omega
  have HL2 : Hid (m2.length ≤ 10000) := by show _ ≤ _; rw [← hm2]; have := acB_le (n := n) (p := xs) ht ha; omega
  have HL3 : Hid (m3.length ≤ 10000) := by show _ ≤ _; rw [← hm3]; have := pyB_le (zs := ys) ht; omega
  have HDS : Hid (∀ w', Sl w' w'.heap.size 1 A K (xs.map (.int .u8)) → Calls Try.prog 46 #[.agg (staC n t (.slice A K C)).toArray] w' fun e w'' => e = .returned (.agg (dl d1).toArray) ∧ Below w'.heap.size w' w'') := fun w' h => by
    have := sdigest_any w' n t ht A K C xs h HBO.out (by omega) hn0 hn1; rwa [hm1, hd1] at this
  have HDA : Hid (∀ w', Sl w' w'.heap.size 1 A K (xs.map (.int .u8)) → Calls Try.prog 50 #[.agg (actC n t a (.slice A K C)).toArray] w' fun e w'' => e = .returned (.agg (dl d2).toArray) ∧ Below w'.heap.size w' w'') := fun w' h => by
    have := adigest_any w' n t a ht ha A K C xs h HBO.out (by omega) hn0 hn1; rwa [hm2, hd2] at this
  have HDP : Hid (∀ w', Sl w' w'.heap.size 1 B L (ys.map (.int .i64)) → Calls Try.prog 51 #[.agg (pyC t (.slice B L D)).toArray] w' fun e w'' => e = .returned (.agg (dl d3).toArray) ∧ Below w'.heap.size w' w'') := fun w' h => by
    have := pdigest_any w' t ht B L D ys h HZO.out (by omega); rwa [hm3, hd3] at this
  have HRS : Hid (∀ w', Sl w' w'.heap.size 1 A K (xs.map (.int .u8)) → Calls Try.prog 42 #[.agg (dl t).toArray, .int .i64 n, .slice A K C] w' (RetB w'.heap.size m1 w')) := fun w' h => by
    have := rbytesSt_any w' t ht n A K C xs h (by omega) hn0 hn1; rwa [hm1] at this
  have HRA : Hid (∀ w', Sl w' w'.heap.size 1 A K (xs.map (.int .u8)) → Calls Try.prog 43 #[.agg (dl t).toArray, .int .i64 n, .agg (dl a).toArray, .slice A K C] w' (RetB w'.heap.size m2 w')) := fun w' h => by
    have := rbytesAc_any w' t a ht ha n A K C xs h (by omega) hn0 hn1; rwa [hm2] at this
  have HRP : Hid (∀ w', Sl w' w'.heap.size 1 B L (ys.map (.int .i64)) → Calls Try.prog 44 #[.agg (dl t).toArray, .slice B L D] w' (RetB w'.heap.size m3 w')) := fun w' h => by
    have := rbytesPy_any w' t ht B L D ys h HZO.out (by omega); rwa [hm3] at this
  have HOF : Hid (∀ (m d : List Int) (w' : World) (A : Option Addr) (c : Nat), ByOk m → m.length ≤ 10000 → ofI m = d → Sl w' w'.heap.size 1 A m.length (m.map (.int .u8)) → Calls Try.prog 47 #[.slice A m.length c] w' fun e w'' => e = .returned (.agg (dl d).toArray) ∧ Below w'.heap.size w' w'') := fun m d w' A c h1 h2 h3 h4 => by
    have := rof2_any w' A m.length c m h4 h1 (by omega); rwa [h3] at this
  have HBS := Lib.hid (fun W => build_sta (n := n) ht A K C W)
  have HBA := Lib.hid (fun W => build_acl (n := n) ht ha A K C W)
  have HBP := Lib.hid (fun W => build_py ht B L D W)
  have HD1 := Lib.hid hd1; have HD2 := Lib.hid hd2; have HD3 := Lib.hid hd3
  rw [hX, hY]
  clear hX hY hw1 hb1 kx ky ht ha hb hz hbo hzo hn hxs hys hm1 hm2 hm3 hd1 hd2 hd3 hK hL hlx hly
  go_enter Try.func11, Try.ntmps11
  go_upto_region 1 with fail
  rw [HW.out]
  go_wp2_with fail
  refine wp_region_held_drew (S := fun w' => Bk w' (w.heap.size + 1) 96 (bodyC (.slice A N C) a (.slice B M D))) (by kernel_rfl) (Bk.drew HY1.out) (fun hHeld => ?_)
  refine wpAnyH_take (i := 0) (v := ?_) rfl (by kernel_rfl) (by kernel_rfl) (by kernel_rfl) (fun _ _ _ h => h) (Or.inl ⟨by rfl, ?_⟩) (by assumption) ?_
  rotate_left
  · intro w hSw
    (try dsimp only at hSw)
    go_simp
    try with_reducible rfl
  try simp only [Act.put, List.setIfInBounds_toArray, List.set_cons_zero, List.set_cons_succ, List.getElem_toArray, List.getElem_cons_zero]
  refine wpAnyH_take (i := 1) (v := ?_) rfl (by kernel_rfl) (by kernel_rfl) (by kernel_rfl) (fun _ _ _ h => h) (Or.inl ⟨by rfl, ?_⟩) (by assumption) ?_
  rotate_left
  · intro w hSw
    have hcell := (bo_mem HAO.out hSw).c0
    clear hSw
    go_simp
    try with_reducible rfl
  try simp only [Act.put, List.setIfInBounds_toArray, List.set_cons_zero, List.set_cons_succ, List.getElem_toArray, List.getElem_cons_zero, List.getElem_cons_succ]
  refine wpAnyH_take (i := 3) (v := ?_) rfl (by kernel_rfl) (by kernel_rfl) (by kernel_rfl) (fun _ _ _ h => h) (Or.inl ⟨by rfl, ?_⟩) (by assumption) ?_
  rotate_left
  · intro w hSw
    (try dsimp only at hSw)
    go_simp
    try with_reducible rfl
  try simp only [Act.put, List.setIfInBounds_toArray, List.set_cons_zero, List.set_cons_succ, List.getElem_toArray, List.getElem_cons_zero, List.getElem_cons_succ]
  refine wpAnyH_take (i := 4) (v := ?_) rfl (by kernel_rfl) (by kernel_rfl) (by kernel_rfl) (fun _ _ _ h => h) (Or.inl ⟨by rfl, ?_⟩) (by assumption) ?_
  rotate_left
  · intro w hSw
    have hcell := (bo_mem HAO.out hSw).c9
    clear hSw
    go_simp
    try with_reducible rfl
  try simp only [Act.put, List.setIfInBounds_toArray, List.set_cons_zero, List.set_cons_succ, List.getElem_toArray, List.getElem_cons_zero, List.getElem_cons_succ]
  refine wpAnyH_take (i := 5) (v := ?_) rfl (by kernel_rfl) (by kernel_rfl) (by kernel_rfl) (fun _ _ _ h => h) (Or.inl ⟨by rfl, ?_⟩) (by assumption) ?_
  rotate_left
  · intro w hSw
    (try dsimp only at hSw)
    go_simp
    try with_reducible rfl
  try simp only [Act.put, List.setIfInBounds_toArray, List.set_cons_zero, List.set_cons_succ, List.getElem_toArray, List.getElem_cons_zero, List.getElem_cons_succ]
  refine wpAnyH_take (i := 6) (v := ?_) rfl (by kernel_rfl) (by kernel_rfl) (by kernel_rfl) (fun _ _ _ h => h) (Or.inl ⟨by rfl, ?_⟩) (by assumption) ?_
  rotate_left
  · intro w hSw
    have hcell := (bo_mem HAO.out hSw).c9
    clear hSw
    go_simp
    try with_reducible rfl
  try simp only [Act.put, List.setIfInBounds_toArray, List.set_cons_zero, List.set_cons_succ, List.getElem_toArray, List.getElem_cons_zero, List.getElem_cons_succ]
  refine wpAnyH_take (i := 7) (v := ?_) rfl (by kernel_rfl) (by kernel_rfl) (by kernel_rfl) (fun _ _ _ h => h) (Or.inl ⟨by rfl, ?_⟩) (by assumption) ?_
  rotate_left
  · intro w hSw
    (try dsimp only at hSw)
    go_simp
    try with_reducible rfl
  try simp only [Act.put, List.setIfInBounds_toArray, List.set_cons_zero, List.set_cons_succ, List.getElem_toArray, List.getElem_cons_zero, List.getElem_cons_succ]
  refine wpAnyH_take (i := 8) (v := ?_) rfl (by kernel_rfl) (by kernel_rfl) (by kernel_rfl) (fun _ _ _ h => h) (Or.inl ⟨by rfl, ?_⟩) (by assumption) ?_
  rotate_left
  · intro w hSw
    (try dsimp only at hSw)
    go_simp
    try with_reducible rfl
  try simp only [Act.put, List.setIfInBounds_toArray, List.set_cons_zero, List.set_cons_succ, List.getElem_toArray, List.getElem_cons_zero, List.getElem_cons_succ]
  refine wpAnyH_take (i := 9) (v := ?_) rfl (by kernel_rfl) (by kernel_rfl) (by kernel_rfl) (fun _ _ _ h => h) (Or.inl ⟨by rfl, ?_⟩) (by assumption) ?_
  rotate_left
  · intro w hSw
    (try dsimp only at hSw)
    go_simp
    try with_reducible rfl
  try simp only [Act.put, List.setIfInBounds_toArray, List.set_cons_zero, List.set_cons_succ, List.getElem_toArray, List.getElem_cons_zero, List.getElem_cons_succ]
  refine wpAnyH_ready (rs := [2]) (by kernel_rfl) (by simp) ?_
  refine AllReadyH.cons rfl (fun K hK => ?_) AllReadyH.nil
  go_simp
  (go_at_call 41; refine (HFEW.out w1.drew).mono ?_; rintro e w2 ⟨rfl, rfl⟩)
  refine hK.out _ _ (hHeld) (fun hHeld => ?_)
  clear hK K
  try simp only [Act.put, List.setIfInBounds_toArray, List.set_cons_zero, List.set_cons_succ, List.getElem_toArray, List.getElem_cons_zero, List.getElem_cons_succ]
  refine wpAnyH_take (i := 10) (v := ?_) rfl (by kernel_rfl) (by kernel_rfl) (by kernel_rfl) (fun _ _ _ h => h) (Or.inl ⟨by rfl, ?_⟩) (by assumption) ?_
  rotate_left
  · intro w hSw
    (try dsimp only at hSw)
    go_simp
    try with_reducible rfl
  try simp only [Act.put, List.setIfInBounds_toArray, List.set_cons_zero, List.set_cons_succ, List.getElem_toArray, List.getElem_cons_zero, List.getElem_cons_succ]
  refine wpAnyH_take (i := 11) (v := ?_) rfl (by kernel_rfl) (by kernel_rfl) (by kernel_rfl) (fun _ _ _ h => h) (Or.inl ⟨by rfl, ?_⟩) (by assumption) ?_
  rotate_left
  · intro w hSw
    (try dsimp only at hSw)
    go_simp
    try with_reducible rfl
  try simp only [Act.put, List.setIfInBounds_toArray, List.set_cons_zero, List.set_cons_succ, List.getElem_toArray, List.getElem_cons_zero, List.getElem_cons_succ]
  refine wpAnyH_done (by kernel_rfl) ?_ _
  clear hHeld hmin hhd
  obtain ⟨w2, hw2⟩ : ∃ w2, w1.drew = w2 := ⟨_, rfl⟩
  have hbn : Below w1.heap.size w1 w2 := hw2 ▸ below_draws w1 _ 1
  rw [hw2]
  clear hw2
  have HBB2 := Lib.hid (below_then HBB1.out hbn)
  have HT2 := Lib.hid (HT1.out.later hbn)
  have HY2 := Lib.hid (HY1.out.later hbn)
  have HX2 := Lib.hid (HX1.out.later hbn)
  have HZ2 := Lib.hid (HZ1.out.later hbn)
  clear hbn
  go_wp2_with (first
    | ((with_reducible refine wpList_load_bk rfl 29 _ rfl w.heap.size rfl (dl t) 29 HT2.out _ Try.underlying29 rfl HTS.out ?_))
    | ((with_reducible refine wpList_build rfl 31 _ rfl #[(0, .agg (dl t).toArray), (1, .int .i64 n), (2, .slice A K C)] ?_ _ (HBS.out _) ?_); focus (simp [Act.eval]; done)))
  refine (HDS.out w2 HX2.out).mono ?_
  rintro e w3 ⟨rfl, hbn⟩
  have HBB3 := Lib.hid (below_then HBB2.out hbn)
  have HT3 := Lib.hid (HT2.out.later hbn)
  have HY3 := Lib.hid (HY2.out.later hbn)
  have HX3 := Lib.hid (HX2.out.later hbn)
  have HZ3 := Lib.hid (HZ2.out.later hbn)
  clear hbn
  go_wp2_with (with_reducible refine stop_store 29 _ _ rfl ?_)
  refine StopD.go ?_
  obtain ⟨g4, hg4⟩ : ∃ g, w3.heap.size = g := ⟨_, rfl⟩
  have hbn : Below w3.heap.size w3 (w3.alloc (.cells #[.int .u8 0, .int .u8 0, .int .u8 0, .int .u8 0, .int .u8 0, .int .u8 0, .int .u8 0, .int .u8 0] 29)) := below_new w3 _
  have kt : Bk (w3.alloc (.cells #[.int .u8 0, .int .u8 0, .int .u8 0, .int .u8 0, .int .u8 0, .int .u8 0, .int .u8 0, .int .u8 0] 29)) g4 29 ([] ++ (dl zeroD ++ [])) := by rw [← hg4]; exact Bk.new' w3 _ #[.int .u8 0, .int .u8 0, .int .u8 0, .int .u8 0, .int .u8 0, .int .u8 0, .int .u8 0, .int .u8 0] rfl
  rw [hg4]
  refine wpList_store_part rfl 29 _ _ rfl g4 0 (.agg (dl d1).toArray) (dl d1) rfl rfl rfl 29 [] (dl zeroD) [] kt rfl (by rw [dl_len, dl_len, HO1.out.len]; rfl) (hdg_size _ HO1.out) (dl_one' _) ?_
  intro w4 hp
  have hbn : Below w3.heap.size w3 w4 := hbn.grown hp.only hbn.size (fun q hq => by injection hq with hq; omega)
  have HE4 : Hid (Bk w4 g4 29 (dl d1)) := by show Bk _ _ _ _; have := hp.bk; simpa using this
  clear hp kt hg4
  have HBB4 := Lib.hid (below_then HBB3.out hbn)
  have HT4 := Lib.hid (HT3.out.later hbn)
  have HY4 := Lib.hid (HY3.out.later hbn)
  have HX4 := Lib.hid (HX3.out.later hbn)
  have HZ4 := Lib.hid (HZ3.out.later hbn)
  clear hbn
  have hr4 := (bo_mem HAO.out HY4.out).r1
  go_wp2_with (first
    | ((with_reducible refine wpList_load_bk rfl 29 _ rfl w.heap.size rfl (dl t) 29 HT4.out _ Try.underlying29 rfl HTS.out ?_))
    | ((with_reducible refine wpList_load_mid rfl 29 _ rfl (w.heap.size + 1) 1 rfl (dl a) _ hr4 Try.underlying29 rfl HAS.out ?_))
    | ((with_reducible refine wpList_build rfl 33 _ rfl #[(0, .agg (dl t).toArray), (1, .int .i64 n), (2, .agg (dl a).toArray), (3, .slice A K C)] ?_ _ (HBA.out _) ?_); focus (simp [Act.eval]; done)))
  refine (HDA.out w4 HX4.out).mono ?_
  rintro e w5 ⟨rfl, hbn⟩
  clear hr4
  have HBB5 := Lib.hid (below_then HBB4.out hbn)
  have HT5 := Lib.hid (HT4.out.later hbn)
  have HY5 := Lib.hid (HY4.out.later hbn)
  have HX5 := Lib.hid (HX4.out.later hbn)
  have HZ5 := Lib.hid (HZ4.out.later hbn)
  have HE5 := Lib.hid (HE4.out.later hbn)
  clear hbn
  go_wp2_with (with_reducible refine stop_store 29 _ _ rfl ?_)
  refine StopD.go ?_
  obtain ⟨g6, hg6⟩ : ∃ g, w5.heap.size = g := ⟨_, rfl⟩
  have hbn : Below w5.heap.size w5 (w5.alloc (.cells #[.int .u8 0, .int .u8 0, .int .u8 0, .int .u8 0, .int .u8 0, .int .u8 0, .int .u8 0, .int .u8 0] 29)) := below_new w5 _
  have kt : Bk (w5.alloc (.cells #[.int .u8 0, .int .u8 0, .int .u8 0, .int .u8 0, .int .u8 0, .int .u8 0, .int .u8 0, .int .u8 0] 29)) g6 29 ([] ++ (dl zeroD ++ [])) := by rw [← hg6]; exact Bk.new' w5 _ #[.int .u8 0, .int .u8 0, .int .u8 0, .int .u8 0, .int .u8 0, .int .u8 0, .int .u8 0, .int .u8 0] rfl
  rw [hg6]
  refine wpList_store_part rfl 29 _ _ rfl g6 0 (.agg (dl d2).toArray) (dl d2) rfl rfl rfl 29 [] (dl zeroD) [] kt rfl (by rw [dl_len, dl_len, HO2.out.len]; rfl) (hdg_size _ HO2.out) (dl_one' _) ?_
  intro w6 hp
  have hbn : Below w5.heap.size w5 w6 := hbn.grown hp.only hbn.size (fun q hq => by injection hq with hq; omega)
  have HF6 : Hid (Bk w6 g6 29 (dl d2)) := by show Bk _ _ _ _; have := hp.bk; simpa using this
  clear hp kt hg6
  have HBB6 := Lib.hid (below_then HBB5.out hbn)
  have HT6 := Lib.hid (HT5.out.later hbn)
  have HY6 := Lib.hid (HY5.out.later hbn)
  have HX6 := Lib.hid (HX5.out.later hbn)
  have HZ6 := Lib.hid (HZ5.out.later hbn)
  have HE6 := Lib.hid (HE5.out.later hbn)
  clear hbn
  go_wp2_with (first
    | ((with_reducible refine wpList_load_bk rfl 29 _ rfl w.heap.size rfl (dl t) 29 HT6.out _ Try.underlying29 rfl HTS.out ?_))
    | ((with_reducible refine wpList_build rfl 98 _ rfl #[(0, .agg (dl t).toArray), (1, .slice B L D)] ?_ _ (HBP.out _) ?_); focus (simp [Act.eval]; done)))
  refine (HDP.out w6 HZ6.out).mono ?_
  rintro e w7 ⟨rfl, hbn⟩
  have HBB7 := Lib.hid (below_then HBB6.out hbn)
  have HT7 := Lib.hid (HT6.out.later hbn)
  have HY7 := Lib.hid (HY6.out.later hbn)
  have HX7 := Lib.hid (HX6.out.later hbn)
  have HZ7 := Lib.hid (HZ6.out.later hbn)
  have HE7 := Lib.hid (HE6.out.later hbn)
  have HF7 := Lib.hid (HF6.out.later hbn)
  clear hbn
  go_wp2_with (with_reducible refine stop_store 29 _ _ rfl ?_)
  refine StopD.go ?_
  obtain ⟨g8, hg8⟩ : ∃ g, w7.heap.size = g := ⟨_, rfl⟩
  have hbn : Below w7.heap.size w7 (w7.alloc (.cells #[.int .u8 0, .int .u8 0, .int .u8 0, .int .u8 0, .int .u8 0, .int .u8 0, .int .u8 0, .int .u8 0] 29)) := below_new w7 _
  have kt : Bk (w7.alloc (.cells #[.int .u8 0, .int .u8 0, .int .u8 0, .int .u8 0, .int .u8 0, .int .u8 0, .int .u8 0, .int .u8 0] 29)) g8 29 ([] ++ (dl zeroD ++ [])) := by rw [← hg8]; exact Bk.new' w7 _ #[.int .u8 0, .int .u8 0, .int .u8 0, .int .u8 0, .int .u8 0, .int .u8 0, .int .u8 0, .int .u8 0] rfl
  rw [hg8]
  refine wpList_store_part rfl 29 _ _ rfl g8 0 (.agg (dl d3).toArray) (dl d3) rfl rfl rfl 29 [] (dl zeroD) [] kt rfl (by rw [dl_len, dl_len, HO3.out.len]; rfl) (hdg_size _ HO3.out) (dl_one' _) ?_
  intro w8 hp
  have hbn : Below w7.heap.size w7 w8 := hbn.grown hp.only hbn.size (fun q hq => by injection hq with hq; omega)
  have HG8 : Hid (Bk w8 g8 29 (dl d3)) := by show Bk _ _ _ _; have := hp.bk; simpa using this
  clear hp kt hg8
  have HBB8 := Lib.hid (below_then HBB7.out hbn)
  have HT8 := Lib.hid (HT7.out.later hbn)
  have HY8 := Lib.hid (HY7.out.later hbn)
  have HX8 := Lib.hid (HX7.out.later hbn)
  have HZ8 := Lib.hid (HZ7.out.later hbn)
  have HE8 := Lib.hid (HE7.out.later hbn)
  have HF8 := Lib.hid (HF7.out.later hbn)
  clear hbn
  go_wp2_with fail
  refine wp_region_held_drew (S := fun w' => Bk w' w.heap.size 29 (dl t) ∧ Bk w' (w.heap.size + 1) 96 (bodyC (.slice A N C) a (.slice B M D)) ∧ Bk w' g4 29 (dl d1) ∧ Bk w' g6 29 (dl d2) ∧ Bk w' g8 29 (dl d3)) (by kernel_rfl) ⟨Bk.drew HT8.out, Bk.drew HY8.out, Bk.drew HE8.out, Bk.drew HF8.out, Bk.drew HG8.out⟩ (fun hHeld => ?_)
  refine wpAnyH_ready (rs := [0]) (by kernel_rfl) (by simp) ?_
  refine AllReadyH.cons rfl (fun K hK => ?_) AllReadyH.nil
  go_simp
  (go_at_call 45; refine (stold_any w8.drew).mono ?_; rintro e w9 ⟨rfl, hbn⟩; have hbn := (below_draws w8 _ 1).trans hbn; have HBB9 := Lib.hid (below_then HBB8.out hbn); have HT9 := Lib.hid (HT8.out.later hbn); have HY9 := Lib.hid (HY8.out.later hbn); have HX9 := Lib.hid (HX8.out.later hbn); have HZ9 := Lib.hid (HZ8.out.later hbn); have HE9 := Lib.hid (HE8.out.later hbn); have HF9 := Lib.hid (HF8.out.later hbn); have HG9 := Lib.hid (HG8.out.later hbn); clear hbn)
  refine hK.out _ _ (⟨HT9.out, HY9.out, HE9.out, HF9.out, HG9.out⟩) (fun hHeld => ?_)
  clear hK K
  try simp only [Act.put, List.setIfInBounds_toArray, List.set_cons_zero, List.set_cons_succ, List.getElem_toArray, List.getElem_cons_zero, List.getElem_cons_succ]
  refine wpAnyH_take (i := 1) (v := ?_) rfl (by kernel_rfl) (by kernel_rfl) (by kernel_rfl) (fun _ _ _ h => h) (Or.inl ⟨by rfl, ?_⟩) (by assumption) ?_
  rotate_left
  · intro w hSw
    (try dsimp only at hSw)
    go_simp
    try with_reducible rfl
  try simp only [Act.put, List.setIfInBounds_toArray, List.set_cons_zero, List.set_cons_succ, List.getElem_toArray, List.getElem_cons_zero, List.getElem_cons_succ]
  refine wpAnyH_take (i := 2) (v := .agg (List.toArray (dl d1))) rfl (by kernel_rfl) (by kernel_rfl) (by kernel_rfl) (fun _ _ _ h => h) (yieldsIf_load_mid (by rfl) _ _ rfl _ _ rfl (dl d1) _ (fun w hSw => (Bk.range (pre := []) (post := []) (by simpa using hSw.2.2.1) rfl)) Try.underlying29 rfl ((hdg_size d1 HO1.out))) (by assumption) ?_
  try simp only [Act.put, List.setIfInBounds_toArray, List.set_cons_zero, List.set_cons_succ, List.getElem_toArray, List.getElem_cons_zero, List.getElem_cons_succ]
  refine wpAnyH_take (i := 3) (v := .agg (List.toArray (dl t))) rfl (by kernel_rfl) (by kernel_rfl) (by kernel_rfl) (fun _ _ _ h => h) (yieldsIf_load_mid (by rfl) _ _ rfl _ _ rfl (dl t) _ (fun w hSw => (Bk.range (pre := []) (post := []) (by simpa using hSw.1) rfl)) Try.underlying29 rfl (HTS.out)) (by assumption) ?_
  try simp only [Act.put, List.setIfInBounds_toArray, List.set_cons_zero, List.set_cons_succ, List.getElem_toArray, List.getElem_cons_zero, List.getElem_cons_succ]
  refine wpAnyH_take (i := 4) (v := ?_) rfl (by kernel_rfl) (by kernel_rfl) (by kernel_rfl) (fun _ _ _ h => h) (Or.inl ⟨by rfl, ?_⟩) (by assumption) ?_
  rotate_left
  · intro w hSw
    (try dsimp only at hSw)
    go_simp
    try with_reducible rfl
  try simp only [Act.put, List.setIfInBounds_toArray, List.set_cons_zero, List.set_cons_succ, List.getElem_toArray, List.getElem_cons_zero, List.getElem_cons_succ]
  refine wpAnyH_take (i := 5) (v := ?_) rfl (by kernel_rfl) (by kernel_rfl) (by kernel_rfl) (fun _ _ _ h => h) (Or.inl ⟨by rfl, ?_⟩) (by assumption) ?_
  rotate_left
  · intro w hSw
    (try dsimp only at hSw)
    go_simp
    try with_reducible rfl
  try simp only [Act.put, List.setIfInBounds_toArray, List.set_cons_zero, List.set_cons_succ, List.getElem_toArray, List.getElem_cons_zero, List.getElem_cons_succ]
  refine wpAnyH_ready (rs := [6]) (by kernel_rfl) (by simp) ?_
  refine AllReadyH.cons rfl (fun K hK => ?_) AllReadyH.nil
  go_simp
  (go_at_call 42; refine (HRS.out w9 HX9.out).mono ?_; rintro e w10 ⟨v, rfl, hown⟩; have hbn : Below w9.heap.size w9 w10 := hown.2; obtain ⟨Aq, cq, rfl⟩ := hown.form; have HQ10 := Lib.hid (Sl.of_own hown.1); clear hown; have HBB10 := Lib.hid (below_then HBB9.out hbn); have HT10 := Lib.hid (HT9.out.later hbn); have HY10 := Lib.hid (HY9.out.later hbn); have HX10 := Lib.hid (HX9.out.later hbn); have HZ10 := Lib.hid (HZ9.out.later hbn); have HE10 := Lib.hid (HE9.out.later hbn); have HF10 := Lib.hid (HF9.out.later hbn); have HG10 := Lib.hid (HG9.out.later hbn); clear hbn)
  refine hK.out _ _ (⟨HT10.out, HY10.out, HE10.out, HF10.out, HG10.out⟩) (fun hHeld => ?_)
  clear hK K
  try simp only [Act.put, List.setIfInBounds_toArray, List.set_cons_zero, List.set_cons_succ, List.getElem_toArray, List.getElem_cons_zero, List.getElem_cons_succ]
  refine wpAnyH_ready (rs := [7]) (by kernel_rfl) (by simp) ?_
  refine AllReadyH.cons rfl (fun K hK => ?_) AllReadyH.nil
  go_simp
  (go_at_call 47; refine (HOF.out m1 d1 w10 Aq cq HM1.out HL1.out HD1.out HQ10.out).mono ?_; rintro e w11 ⟨rfl, hbn⟩; have HBB11 := Lib.hid (below_then HBB10.out hbn); have HT11 := Lib.hid (HT10.out.later hbn); have HY11 := Lib.hid (HY10.out.later hbn); have HX11 := Lib.hid (HX10.out.later hbn); have HZ11 := Lib.hid (HZ10.out.later hbn); have HE11 := Lib.hid (HE10.out.later hbn); have HF11 := Lib.hid (HF10.out.later hbn); have HG11 := Lib.hid (HG10.out.later hbn); clear hbn)
  refine hK.out _ _ (⟨HT11.out, HY11.out, HE11.out, HF11.out, HG11.out⟩) (fun hHeld => ?_)
  clear hK K
  try simp only [Act.put, List.setIfInBounds_toArray, List.set_cons_zero, List.set_cons_succ, List.getElem_toArray, List.getElem_cons_zero, List.getElem_cons_succ]
  refine wpAnyH_take (i := 8) (v := ?_) rfl (by kernel_rfl) (by kernel_rfl) (by kernel_rfl) (fun _ _ _ h => h) (Or.inl ⟨by rfl, ?_⟩) (by assumption) ?_
  rotate_left
  · intro w hSw
    have hcell := (fun W => (dg_eq_run d1 d1 HO1.out HO1.out W).trans (by rw [eqL_self]))
    clear hSw
    go_simp
    try with_reducible rfl
  try simp only [Act.put, List.setIfInBounds_toArray, List.set_cons_zero, List.set_cons_succ, List.getElem_toArray, List.getElem_cons_zero, List.getElem_cons_succ]
  refine wpAnyH_take (i := 9) (v := ?_) rfl (by kernel_rfl) (by kernel_rfl) (by kernel_rfl) (fun _ _ _ h => h) (Or.inl ⟨by rfl, ?_⟩) (by assumption) ?_
  rotate_left
  · intro w hSw
    (try dsimp only at hSw)
    go_simp
    try with_reducible rfl
  try simp only [Act.put, List.setIfInBounds_toArray, List.set_cons_zero, List.set_cons_succ, List.getElem_toArray, List.getElem_cons_zero, List.getElem_cons_succ]
  refine wpAnyH_take (i := 10) (v := ?_) rfl (by kernel_rfl) (by kernel_rfl) (by kernel_rfl) (fun _ _ _ h => h) (Or.inl ⟨by rfl, ?_⟩) (by assumption) ?_
  rotate_left
  · intro w hSw
    (try dsimp only at hSw)
    go_simp
    try with_reducible rfl
  try simp only [Act.put, List.setIfInBounds_toArray, List.set_cons_zero, List.set_cons_succ, List.getElem_toArray, List.getElem_cons_zero, List.getElem_cons_succ]
  refine wpAnyH_take (i := 11) (v := .agg (List.toArray (dl d2))) rfl (by kernel_rfl) (by kernel_rfl) (by kernel_rfl) (fun _ _ _ h => h) (yieldsIf_load_mid (by rfl) _ _ rfl _ _ rfl (dl d2) _ (fun w hSw => (Bk.range (pre := []) (post := []) (by simpa using hSw.2.2.2.1) rfl)) Try.underlying29 rfl ((hdg_size d2 HO2.out))) (by assumption) ?_
  try simp only [Act.put, List.setIfInBounds_toArray, List.set_cons_zero, List.set_cons_succ, List.getElem_toArray, List.getElem_cons_zero, List.getElem_cons_succ]
  refine wpAnyH_take (i := 12) (v := .agg (List.toArray (dl t))) rfl (by kernel_rfl) (by kernel_rfl) (by kernel_rfl) (fun _ _ _ h => h) (yieldsIf_load_mid (by rfl) _ _ rfl _ _ rfl (dl t) _ (fun w hSw => (Bk.range (pre := []) (post := []) (by simpa using hSw.1) rfl)) Try.underlying29 rfl (HTS.out)) (by assumption) ?_
  try simp only [Act.put, List.setIfInBounds_toArray, List.set_cons_zero, List.set_cons_succ, List.getElem_toArray, List.getElem_cons_zero, List.getElem_cons_succ]
  refine wpAnyH_take (i := 13) (v := ?_) rfl (by kernel_rfl) (by kernel_rfl) (by kernel_rfl) (fun _ _ _ h => h) (Or.inl ⟨by rfl, ?_⟩) (by assumption) ?_
  rotate_left
  · intro w hSw
    (try dsimp only at hSw)
    go_simp
    try with_reducible rfl
  try simp only [Act.put, List.setIfInBounds_toArray, List.set_cons_zero, List.set_cons_succ, List.getElem_toArray, List.getElem_cons_zero, List.getElem_cons_succ]
  refine wpAnyH_take (i := 14) (v := ?_) rfl (by kernel_rfl) (by kernel_rfl) (by kernel_rfl) (fun _ _ _ h => h) (Or.inl ⟨by rfl, ?_⟩) (by assumption) ?_
  rotate_left
  · intro w hSw
    (try dsimp only at hSw)
    go_simp
    try with_reducible rfl
  try simp only [Act.put, List.setIfInBounds_toArray, List.set_cons_zero, List.set_cons_succ, List.getElem_toArray, List.getElem_cons_zero, List.getElem_cons_succ]
  refine wpAnyH_take (i := 15) (v := .agg (List.toArray (dl a))) rfl (by kernel_rfl) (by kernel_rfl) (by kernel_rfl) (fun _ _ _ h => h) (yieldsIf_load_mid (by rfl) _ _ rfl _ _ rfl (dl a) _ (fun w hSw => ((bo_mem HAO.out hSw.2.1).r1)) Try.underlying29 rfl (HAS.out)) (by assumption) ?_
  try simp only [Act.put, List.setIfInBounds_toArray, List.set_cons_zero, List.set_cons_succ, List.getElem_toArray, List.getElem_cons_zero, List.getElem_cons_succ]
  refine wpAnyH_take (i := 16) (v := ?_) rfl (by kernel_rfl) (by kernel_rfl) (by kernel_rfl) (fun _ _ _ h => h) (Or.inl ⟨by rfl, ?_⟩) (by assumption) ?_
  rotate_left
  · intro w hSw
    (try dsimp only at hSw)
    go_simp
    try with_reducible rfl
  try simp only [Act.put, List.setIfInBounds_toArray, List.set_cons_zero, List.set_cons_succ, List.getElem_toArray, List.getElem_cons_zero, List.getElem_cons_succ]
  refine wpAnyH_ready (rs := [17]) (by kernel_rfl) (by simp) ?_
  refine AllReadyH.cons rfl (fun K hK => ?_) AllReadyH.nil
  go_simp
  (go_at_call 43; refine (HRA.out w11 HX11.out).mono ?_; rintro e w12 ⟨v, rfl, hown⟩; have hbn : Below w11.heap.size w11 w12 := hown.2; obtain ⟨Aq, cq, rfl⟩ := hown.form; have HQ12 := Lib.hid (Sl.of_own hown.1); clear hown; have HBB12 := Lib.hid (below_then HBB11.out hbn); have HT12 := Lib.hid (HT11.out.later hbn); have HY12 := Lib.hid (HY11.out.later hbn); have HX12 := Lib.hid (HX11.out.later hbn); have HZ12 := Lib.hid (HZ11.out.later hbn); have HE12 := Lib.hid (HE11.out.later hbn); have HF12 := Lib.hid (HF11.out.later hbn); have HG12 := Lib.hid (HG11.out.later hbn); clear hbn)
  refine hK.out _ _ (⟨HT12.out, HY12.out, HE12.out, HF12.out, HG12.out⟩) (fun hHeld => ?_)
  clear hK K
  try simp only [Act.put, List.setIfInBounds_toArray, List.set_cons_zero, List.set_cons_succ, List.getElem_toArray, List.getElem_cons_zero, List.getElem_cons_succ]
  refine wpAnyH_ready (rs := [18]) (by kernel_rfl) (by simp) ?_
  refine AllReadyH.cons rfl (fun K hK => ?_) AllReadyH.nil
  go_simp
  (go_at_call 47; refine (HOF.out m2 d2 w12 Aq cq HM2.out HL2.out HD2.out HQ12.out).mono ?_; rintro e w13 ⟨rfl, hbn⟩; have HBB13 := Lib.hid (below_then HBB12.out hbn); have HT13 := Lib.hid (HT12.out.later hbn); have HY13 := Lib.hid (HY12.out.later hbn); have HX13 := Lib.hid (HX12.out.later hbn); have HZ13 := Lib.hid (HZ12.out.later hbn); have HE13 := Lib.hid (HE12.out.later hbn); have HF13 := Lib.hid (HF12.out.later hbn); have HG13 := Lib.hid (HG12.out.later hbn); clear hbn)
  refine hK.out _ _ (⟨HT13.out, HY13.out, HE13.out, HF13.out, HG13.out⟩) (fun hHeld => ?_)
  clear hK K
  try simp only [Act.put, List.setIfInBounds_toArray, List.set_cons_zero, List.set_cons_succ, List.getElem_toArray, List.getElem_cons_zero, List.getElem_cons_succ]
  refine wpAnyH_take (i := 19) (v := ?_) rfl (by kernel_rfl) (by kernel_rfl) (by kernel_rfl) (fun _ _ _ h => h) (Or.inl ⟨by rfl, ?_⟩) (by assumption) ?_
  rotate_left
  · intro w hSw
    have hcell := (fun W => (dg_eq_run d2 d2 HO2.out HO2.out W).trans (by rw [eqL_self]))
    clear hSw
    go_simp
    try with_reducible rfl
  try simp only [Act.put, List.setIfInBounds_toArray, List.set_cons_zero, List.set_cons_succ, List.getElem_toArray, List.getElem_cons_zero, List.getElem_cons_succ]
  refine wpAnyH_take (i := 20) (v := ?_) rfl (by kernel_rfl) (by kernel_rfl) (by kernel_rfl) (fun _ _ _ h => h) (Or.inl ⟨by rfl, ?_⟩) (by assumption) ?_
  rotate_left
  · intro w hSw
    (try dsimp only at hSw)
    go_simp
    try with_reducible rfl
  try simp only [Act.put, List.setIfInBounds_toArray, List.set_cons_zero, List.set_cons_succ, List.getElem_toArray, List.getElem_cons_zero, List.getElem_cons_succ]
  refine wpAnyH_take (i := 21) (v := ?_) rfl (by kernel_rfl) (by kernel_rfl) (by kernel_rfl) (fun _ _ _ h => h) (Or.inl ⟨by rfl, ?_⟩) (by assumption) ?_
  rotate_left
  · intro w hSw
    (try dsimp only at hSw)
    go_simp
    try with_reducible rfl
  try simp only [Act.put, List.setIfInBounds_toArray, List.set_cons_zero, List.set_cons_succ, List.getElem_toArray, List.getElem_cons_zero, List.getElem_cons_succ]
  refine wpAnyH_take (i := 22) (v := .agg (List.toArray (dl d3))) rfl (by kernel_rfl) (by kernel_rfl) (by kernel_rfl) (fun _ _ _ h => h) (yieldsIf_load_mid (by rfl) _ _ rfl _ _ rfl (dl d3) _ (fun w hSw => (Bk.range (pre := []) (post := []) (by simpa using hSw.2.2.2.2) rfl)) Try.underlying29 rfl ((hdg_size d3 HO3.out))) (by assumption) ?_
  try simp only [Act.put, List.setIfInBounds_toArray, List.set_cons_zero, List.set_cons_succ, List.getElem_toArray, List.getElem_cons_zero, List.getElem_cons_succ]
  refine wpAnyH_take (i := 23) (v := .agg (List.toArray (dl t))) rfl (by kernel_rfl) (by kernel_rfl) (by kernel_rfl) (fun _ _ _ h => h) (yieldsIf_load_mid (by rfl) _ _ rfl _ _ rfl (dl t) _ (fun w hSw => (Bk.range (pre := []) (post := []) (by simpa using hSw.1) rfl)) Try.underlying29 rfl (HTS.out)) (by assumption) ?_
  try simp only [Act.put, List.setIfInBounds_toArray, List.set_cons_zero, List.set_cons_succ, List.getElem_toArray, List.getElem_cons_zero, List.getElem_cons_succ]
  refine wpAnyH_take (i := 24) (v := ?_) rfl (by kernel_rfl) (by kernel_rfl) (by kernel_rfl) (fun _ _ _ h => h) (Or.inl ⟨by rfl, ?_⟩) (by assumption) ?_
  rotate_left
  · intro w hSw
    (try dsimp only at hSw)
    go_simp
    try with_reducible rfl
  try simp only [Act.put, List.setIfInBounds_toArray, List.set_cons_zero, List.set_cons_succ, List.getElem_toArray, List.getElem_cons_zero, List.getElem_cons_succ]
  refine wpAnyH_ready (rs := [25]) (by kernel_rfl) (by simp) ?_
  refine AllReadyH.cons rfl (fun K hK => ?_) AllReadyH.nil
  go_simp
  (go_at_call 44; refine (HRP.out w13 HZ13.out).mono ?_; rintro e w14 ⟨v, rfl, hown⟩; have hbn : Below w13.heap.size w13 w14 := hown.2; obtain ⟨Aq, cq, rfl⟩ := hown.form; have HQ14 := Lib.hid (Sl.of_own hown.1); clear hown; have HBB14 := Lib.hid (below_then HBB13.out hbn); have HT14 := Lib.hid (HT13.out.later hbn); have HY14 := Lib.hid (HY13.out.later hbn); have HX14 := Lib.hid (HX13.out.later hbn); have HZ14 := Lib.hid (HZ13.out.later hbn); have HE14 := Lib.hid (HE13.out.later hbn); have HF14 := Lib.hid (HF13.out.later hbn); have HG14 := Lib.hid (HG13.out.later hbn); clear hbn)
  refine hK.out _ _ (⟨HT14.out, HY14.out, HE14.out, HF14.out, HG14.out⟩) (fun hHeld => ?_)
  clear hK K
  try simp only [Act.put, List.setIfInBounds_toArray, List.set_cons_zero, List.set_cons_succ, List.getElem_toArray, List.getElem_cons_zero, List.getElem_cons_succ]
  refine wpAnyH_ready (rs := [26]) (by kernel_rfl) (by simp) ?_
  refine AllReadyH.cons rfl (fun K hK => ?_) AllReadyH.nil
  go_simp
  (go_at_call 47; refine (HOF.out m3 d3 w14 Aq cq HM3.out HL3.out HD3.out HQ14.out).mono ?_; rintro e w15 ⟨rfl, hbn⟩; have HBB15 := Lib.hid (below_then HBB14.out hbn); have HT15 := Lib.hid (HT14.out.later hbn); have HY15 := Lib.hid (HY14.out.later hbn); have HX15 := Lib.hid (HX14.out.later hbn); have HZ15 := Lib.hid (HZ14.out.later hbn); have HE15 := Lib.hid (HE14.out.later hbn); have HF15 := Lib.hid (HF14.out.later hbn); have HG15 := Lib.hid (HG14.out.later hbn); clear hbn)
  refine hK.out _ _ (⟨HT15.out, HY15.out, HE15.out, HF15.out, HG15.out⟩) (fun hHeld => ?_)
  clear hK K
  try simp only [Act.put, List.setIfInBounds_toArray, List.set_cons_zero, List.set_cons_succ, List.getElem_toArray, List.getElem_cons_zero, List.getElem_cons_succ]
  refine wpAnyH_take (i := 27) (v := ?_) rfl (by kernel_rfl) (by kernel_rfl) (by kernel_rfl) (fun _ _ _ h => h) (Or.inl ⟨by rfl, ?_⟩) (by assumption) ?_
  rotate_left
  · intro w hSw
    have hcell := (fun W => (dg_eq_run d3 d3 HO3.out HO3.out W).trans (by rw [eqL_self]))
    clear hSw
    go_simp
    try with_reducible rfl
  try simp only [Act.put, List.setIfInBounds_toArray, List.set_cons_zero, List.set_cons_succ, List.getElem_toArray, List.getElem_cons_zero, List.getElem_cons_succ]
  refine wpAnyH_take (i := 28) (v := ?_) rfl (by kernel_rfl) (by kernel_rfl) (by kernel_rfl) (fun _ _ _ h => h) (Or.inl ⟨by rfl, ?_⟩) (by assumption) ?_
  rotate_left
  · intro w hSw
    (try dsimp only at hSw)
    go_simp
    try with_reducible rfl
  try simp only [Act.put, List.setIfInBounds_toArray, List.set_cons_zero, List.set_cons_succ, List.getElem_toArray, List.getElem_cons_zero, List.getElem_cons_succ]
  refine wpAnyH_take (i := 29) (v := ?_) rfl (by kernel_rfl) (by kernel_rfl) (by kernel_rfl) (fun _ _ _ h => h) (Or.inl ⟨by rfl, ?_⟩) (by assumption) ?_
  rotate_left
  · intro w hSw
    (try dsimp only at hSw)
    go_simp
    try with_reducible rfl
  try simp only [Act.put, List.setIfInBounds_toArray, List.set_cons_zero, List.set_cons_succ, List.getElem_toArray, List.getElem_cons_zero, List.getElem_cons_succ]
  refine wpAnyH_done (by kernel_rfl) ?_ _
  clear hHeld
  go_wp2_with fail
  go_ret
  exact ⟨rfl, HBB15.out⟩
end Go.Proofs.Ythibihjblodfmaa
