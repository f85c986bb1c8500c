/- Whoever signed, and whoever is gone: the walk of StateFull. -/
import Derived.Test.YthibihjblodfmaaS11
namespace Go.Proofs.Ythibihjblodfmaa
open Go.RowKit Go.Maps

theorem BookAt.lo_le {w : World} {lo g : Nat} {es : List Ent} (h : BookAt w lo g es) : lo ≤ w.heap.size := by obtain ⟨V, b, h1, _, _, h4, _⟩ := h; exact Nat.le_trans h4 (Nat.le_of_lt h1.lt)
theorem set_last {α : Type} {l : List α} {a b : α} {k : Nat} (h : l.length = k) : (l ++ [a]).set k b = l ++ [b] := by subst h; rw [List.set_append_right _ _ (Nat.le_refl _)]; simp
theorem bs_nil1 (w : World) : (Instr.buildSlice 90 1 #[(0, .slice none 0 0)]).run Try.prog w = .ok (.slice (some ⟨w.heap.size, 0, none⟩) 1 1) (w.alloc (.cells ([Value.slice none 0 0]).toArray 23)) := by kernel_rfl
theorem cellsD_snoc (ls : List (List Int)) (d : List Int) : cellsD (ls ++ [d]) = cellsD ls ++ dl d := by simp [cellsD, dl]
theorem own_far {w w' : World} {base size n g : Nat} {e t : TypeId} {v : Value} {xs ys : List Value} (h : w.ownsRow base e size v n xs) (hb : Bk w g t ys) (hg : g < base) (hk : w.grownBy w' v.ownBlock) : Bk w' g t ys :=
  hb.grown hk (fun e1 => by have := (h.lt g e1.symm).1; omega)
set_option maxRecDepth 20000 in
set_option maxHeartbeats 8000000 in
theorem sfull_any (w : World) (many : Int) (As Ag : Option Addr) (Ns Cs Ng Cg : Nat) (ss gs : List Bool) (hss : Sl w w.heap.size 1 As Ns (ss.map .bool)) (hgs : Sl w w.heap.size 1 Ag Ng (gs.map .bool)) (hgc : Ng ≤ Cg)
    (t : List Int) (ht : DgOk t) (n : Int) (hn : -9223372036854775808 ≤ n ∧ n < 9223372036854775808) (A : Option Addr) (N C : Nat) (bs : List Int) (hNC : N ≤ C) (hb : Sl w w.heap.size 1 A N (bs.map (.int .u8))) (hbo : ByOk bs) :
    Calls Try.prog 9 #[.int .i64 many, .agg #[.slice As Ns Cs, .slice Ag Ng Cg], .agg (staC n t (.slice A N C)).toArray] w fun e w' => e = .returned (.bool true) ∧ Below w.heap.size w w' := by
  obtain ⟨X, hX⟩ : ∃ X, #[Value.slice As Ns Cs, .slice Ag Ng Cg] = X := ⟨_, rfl⟩
  obtain ⟨Y, hY⟩ : ∃ Y, (staC n t (.slice A N C)).toArray = Y := ⟨_, rfl⟩
  obtain ⟨w1, hw1⟩ : ∃ w1, (w.alloc (.cells X 87)).alloc (.cells Y 31) = w1 := ⟨_, rfl⟩
  have hb1 : Below w.heap.size w w1 := hw1 ▸ (below_new w _).alloc (by simp) _
  have kx : Bk w1 w.heap.size 87 [.slice As Ns Cs, .slice Ag Ng Cg] := hw1 ▸ (Bk.new' w _ X (by rw [← hX])).alloc _
  have ky : Bk w1 (w.heap.size + 1) 31 (staC n t (.slice A N C)) := hw1 ▸ Bk.at_ _ _ Y (by simp) (by rw [← hY])
  have HW := Lib.hid hw1; have HBB1 := Lib.hid hb1; have HX1 := Lib.hid kx; have HY1 := Lib.hid ky; have HTO := Lib.hid ht
  have hn0 : Hid (-9223372036854775808 ≤ n) := hn.1
  have hn1 : Hid (n < 9223372036854775808) := hn.2
  obtain ⟨r, hr, hr5, hr6, hr0, hr7⟩ : ∃ k : Int, Int.tmod (IntKind.u64.wrap many) 7 = k ∧ IntKind.u64.wrap k = k ∧ IntKind.i64.wrap k = k ∧ 0 ≤ k ∧ k < 7 := by
    obtain ⟨j, hj, hjm⟩ : ∃ j : Nat, Int.tmod (IntKind.u64.wrap many) 7 = (j : Int) ∧ j < 7 := by
      have h0 : 0 ≤ IntKind.u64.wrap many := by rw [IntKind.wrap_u64]; omega
      rw [Int.tmod_eq_emod_of_nonneg h0]
      exact ⟨(IntKind.u64.wrap many % 7).toNat, by omega, by omega⟩
    exact ⟨j, hj, by rw [IntKind.wrap_u64]; omega, by rw [IntKind.wrap_i64]; omega, by omega, by omega⟩
  obtain ⟨n8, hn8, hn82, hn88⟩ : ∃ m : Nat, IntKind.i64.wrap (2 + r) = (m : Int) ∧ 2 ≤ m ∧ m ≤ 8 := ⟨(2 + r).toNat, by rw [IntKind.wrap_i64]; omega, by omega, by omega⟩
  obtain ⟨KA, hKA⟩ : ∃ K, min N 5000 = K := ⟨_, rfl⟩
  have hKA1 : KA ≤ 5000 := by omega
  have HX0 := Lib.hid (hb.head1 (k := KA) (by omega))
  have HBO : Hid (ByOk (bs.take KA)) := hbo.take KA
  have HFEW := Lib.hid (fun w => few_any w A N C hNC)
  rw [hKA] at HFEW
  obtain ⟨xs, hxs⟩ : ∃ xs, bs.take KA = xs := ⟨_, rfl⟩
  rw [hxs] at HX0 HBO
  obtain ⟨m, hm⟩ : ∃ d, ofI (stB t n xs) = d := ⟨_, rfl⟩
  have HMO : Hid (DgOk m) := by show DgOk _; rw [← hm]; exact ofI_ok _
  have HMD := Lib.hid (hdg_size m HMO.out)
  have HDS : Hid (∀ w', Sl w' w'.heap.size 1 A KA (xs.map (.int .u8)) → Calls Try.prog 46 #[.agg (staC n t (.slice A KA C)).toArray] w' fun e w'' => e = .returned (.agg (dl m).toArray) ∧ Below w'.heap.size w' w'') := fun w' h => by
    have := sdigest_any w' n t ht A KA C xs h HBO.out (by omega) hn0 hn1; rwa [hm] at this
  have HSS0 := Lib.hid hss; have HG0 := Lib.hid hgs; have HSL := Lib.hid hss.length; have HGL := Lib.hid hgs.length
  obtain ⟨sg, hsg⟩ : ∃ sg : Nat → Bool, (fun i => ss.getD i false) = sg := ⟨_, rfl⟩
  obtain ⟨gn, hgn⟩ : ∃ gn : Nat → Bool, (fun i => gs.getD i false) = gn := ⟨_, rfl⟩
  have HSN : Hid (∀ i, sg i = ss.getD i false) := by intro i; rw [← hsg]
  have HGN : Hid (∀ i, gs.getD i false = gn i) := by intro i; rw [← hgn]
  have HYZ : Hid ((Try.prog.info? 31).map (·.size) = some (staC n t (.slice A KA C)).length) := by show _ = _; rw [staC_len ht]; exact st_size
  have HPL : Hid ((dl t ++ [Value.int .i64 n]).length = 9) := by show _ = _; simp [dl_len, ht.len]
  obtain ⟨KG, hKG⟩ : ∃ K, min Ng 12 = K := ⟨_, rfl⟩
  have hmin := fun ts t => min_run (P := Try.prog) ts t Ng 12 12 rfl
  rw [hKG] at hmin
  have hhd := run_headBl Ag Ng Cg KG (by omega)
  have HF0 := Lib.hid (hgs.head1 (k := KG) (by omega))
  have HFG : Hid (∀ i, i < n8 → (gs.take KG).getD i false = gn i) := by
    intro i hi
    rw [← HGN.out i, List.getD_eq_getElem?_getD, List.getD_eq_getElem?_getD, List.getElem?_take]
    split
    · rfl
    · rw [List.getElem?_eq_none (by have := HGL.out; omega)]
  obtain ⟨iD, zD, hDi, hDz, hDs, hDb, hDc⟩ := dg_parts
  obtain ⟨iP, hPi, hPz, hPs, hPb⟩ := info_parts Try.infoSlB
  rw [hX, hY]
  clear hX hY hw1 hb1 kx ky ht hb hbo hn hxs hm hss hgs hsg hgn hKA hKG
  go_enter Try.func9, Try.ntmps9
  go_upto_region 1 with fail
  rw [HW.out]
  go_wp2_with fail
  refine wp_region_held_drew (S := fun w' => Bk w' w.heap.size 87 [.slice As Ns Cs, .slice Ag Ng Cg]) (by kernel_rfl) (Bk.drew HX1.out) (fun hHeld => ?_)
  refine wpAnyH_take (i := 0) (v := ?_) rfl (by kernel_rfl) (by kernel_rfl) (by kernel_rfl) (fun _ _ _ h => h) (Or.inl ⟨by rfl, ?_⟩) (by assumption) ?_
  rotate_left
  · intro w hSw
    (try dsimp only at hSw)
    go_simp
    try with_reducible rfl
  try simp only [Act.put, List.setIfInBounds_toArray, List.set_cons_zero, List.set_cons_succ, List.getElem_toArray, List.getElem_cons_zero]
  refine wpAnyH_take (i := 1) (v := ?_) rfl (by kernel_rfl) (by kernel_rfl) (by kernel_rfl) (fun _ _ _ h => h) (Or.inl ⟨by rfl, ?_⟩) (by assumption) ?_
  rotate_left
  · intro w hSw
    have hcell := (bk2 hSw).1
    clear hSw
    go_simp
    try with_reducible rfl
  try simp only [Act.put, List.setIfInBounds_toArray, List.set_cons_zero, List.set_cons_succ, List.getElem_toArray, List.getElem_cons_zero, List.getElem_cons_succ]
  refine wpAnyH_take (i := 4) (v := ?_) rfl (by kernel_rfl) (by kernel_rfl) (by kernel_rfl) (fun _ _ _ h => h) (Or.inl ⟨by rfl, ?_⟩) (by assumption) ?_
  rotate_left
  · intro w hSw
    (try dsimp only at hSw)
    go_simp
    try with_reducible rfl
  try simp only [Act.put, List.setIfInBounds_toArray, List.set_cons_zero, List.set_cons_succ, List.getElem_toArray, List.getElem_cons_zero, List.getElem_cons_succ]
  refine wpAnyH_take (i := 2) (v := ?_) rfl (by kernel_rfl) (by kernel_rfl) (by kernel_rfl) (fun _ _ _ h => h) (Or.inl ⟨by rfl, ?_⟩) (by assumption) ?_
  rotate_left
  · intro w hSw
    (try dsimp only at hSw)
    go_simp
    try with_reducible rfl
  try simp only [Act.put, List.setIfInBounds_toArray, List.set_cons_zero, List.set_cons_succ, List.getElem_toArray, List.getElem_cons_zero, List.getElem_cons_succ]
  refine wpAnyH_take (i := 3) (v := ?_) rfl (by kernel_rfl) (by kernel_rfl) (by kernel_rfl) (fun _ _ _ h => h) (Or.inl ⟨by rfl, ?_⟩) (by assumption) ?_
  rotate_left
  · intro w hSw
    have hcell := (bk2 hSw).2
    clear hSw
    go_simp
    try with_reducible rfl
  try simp only [Act.put, List.setIfInBounds_toArray, List.set_cons_zero, List.set_cons_succ, List.getElem_toArray, List.getElem_cons_zero, List.getElem_cons_succ]
  refine wpAnyH_take (i := 5) (v := ?_) rfl (by kernel_rfl) (by kernel_rfl) (by kernel_rfl) (fun _ _ _ h => h) (Or.inl ⟨by rfl, ?_⟩) (by assumption) ?_
  rotate_left
  · intro w hSw
    (try dsimp only at hSw)
    go_simp
    try with_reducible rfl
  try simp only [Act.put, List.setIfInBounds_toArray, List.set_cons_zero, List.set_cons_succ, List.getElem_toArray, List.getElem_cons_zero, List.getElem_cons_succ]
  refine wpAnyH_done (by kernel_rfl) ?_ _
  clear hHeld
  obtain ⟨w2, hw2⟩ : ∃ w2, w1.drew = w2 := ⟨_, rfl⟩
  have hbn : Below w1.heap.size w1 w2 := hw2 ▸ below_draws w1 _ 1
  rw [hw2]
  clear hw2
  have HBB2 := Lib.hid (below_then HBB1.out hbn)
  have HY2 := Lib.hid (HY1.out.later hbn)
  clear hbn
  go_wp2_with fail
  refine (newBook_any _).mono ?_
  rintro e w3 ⟨⟨g, rfl, hbk⟩, hbn⟩
  obtain ⟨lo, hlo⟩ : ∃ l, w2.heap.size = l := ⟨_, rfl⟩
  rw [hlo] at hbk
  have HLO : Hid (w.heap.size ≤ lo) := by show _ ≤ _; rw [← hlo]; exact HBB2.out.size
  have HLY : Hid (w.heap.size + 1 < lo) := by show _ < _; rw [← hlo]; exact HY2.out.lt
  have HBK3 := Lib.hid hbk
  clear hbk hlo
  have HBB3 := Lib.hid (below_then HBB2.out hbn)
  have HY3 := Lib.hid (HY2.out.later hbn)
  clear hbn
  go_wp2_with fail
  refine (stold_any _).mono ?_
  rintro e w4 ⟨rfl, hbn⟩
  have HBB4 := Lib.hid (below_then HBB3.out hbn)
  have HY4 := Lib.hid (HY3.out.later hbn)
  have HBK4 := Lib.hid (HBK3.out.later hbn)
  clear hbn
  have hc9 := (st_mem HTO.out HY4.out).c9
  go_wp2_with fail
  refine (HFEW.out w4).mono ?_
  rintro e w5 ⟨rfl, rfl⟩
  go_wp2_with (with_reducible refine stop_store 23 _ _ rfl ?_)
  refine StopD.go ?_
  have HY4' := HY4
  rw [sta_pre] at HY4'
  refine wpList_store_part rfl 23 _ _ rfl (w.heap.size + 1) 9 (.slice A KA C) [.slice A KA C] rfl rfl rfl 31 (dl t ++ [.int .i64 n]) [.slice A N C] [] HY4'.out HPL.out rfl (by kernel_rfl) (by simp [Value.oneCell']) ?_
  intro w5 hp
  have HY5 : Hid (Bk w5 (w.heap.size + 1) 31 (staC n t (.slice A KA C))) := by show Bk _ _ _ _; rw [sta_pre]; exact hp.bk
  have HBB5 := Lib.hid (below_only HBB4.out hp.only HBB4.out.size (Nat.le_succ _))
  have HBK5 := Lib.hid (HBK4.out.put hp HY4'.out (by decide) (by decide))
  clear hp HY4' hc9
  go_wp2_with (with_reducible refine wpList_load_bk rfl 31 _ rfl (w.heap.size + 1) rfl (staC n t (.slice A KA C)) 31 HY5.out _ Try.underlying31 rfl HYZ.out ?_)
  refine (HDS.out w5 (HX0.out.later HBB5.out)).mono ?_
  rintro e w6 ⟨rfl, hbn⟩
  have HBB6 := Lib.hid (below_then HBB5.out hbn)
  have HBK6 := Lib.hid (HBK5.out.later hbn)
  clear hbn
  go_wp2_with (with_reducible refine stop_store 29 _ _ rfl ?_)
  refine StopD.go ?_
  obtain ⟨g7, hg7⟩ : ∃ g, w6.heap.size = g := ⟨_, rfl⟩
  have hbn : Below w6.heap.size w6 (w6.alloc (.cells #[.int .u8 0, .int .u8 0, .int .u8 0, .int .u8 0, .int .u8 0, .int .u8 0, .int .u8 0, .int .u8 0] 29)) := below_new w6 _
  have kt : Bk (w6.alloc (.cells #[.int .u8 0, .int .u8 0, .int .u8 0, .int .u8 0, .int .u8 0, .int .u8 0, .int .u8 0, .int .u8 0] 29)) g7 29 ([] ++ (dl zeroD ++ [])) := by rw [← hg7]; exact Bk.new' w6 _ #[.int .u8 0, .int .u8 0, .int .u8 0, .int .u8 0, .int .u8 0, .int .u8 0, .int .u8 0, .int .u8 0] rfl
  rw [hg7]
  refine wpList_store_part rfl 29 _ _ rfl g7 0 (.agg (dl m).toArray) (dl m) rfl rfl rfl 29 [] (dl zeroD) [] kt rfl (by rw [dl_len, dl_len, HMO.out.len]; rfl) (hdg_size _ HMO.out) (dl_one' _) ?_
  intro w7 hp
  have hbn : Below w6.heap.size w6 w7 := hbn.grown hp.only hbn.size (fun q hq => by injection hq with hq; omega)
  have HMS7 : Hid (Bk w7 g7 29 (dl m)) := by show Bk _ _ _ _; have := hp.bk; simpa using this
  clear hp kt hg7
  have HBB7 := Lib.hid (below_then HBB6.out hbn)
  have HBK7 := Lib.hid (HBK6.out.later hbn)
  clear hbn
  have HG7 : Hid (g7 < w7.heap.size) := HMS7.out.lt
  obtain ⟨B1, hB1⟩ : ∃ B, w7.heap.size = B := ⟨_, rfl⟩
  have HGB : Hid (g7 < B1) := by show _ < _; rw [← hB1]; exact HMS7.out.lt
  have HWB : Hid (w.heap.size ≤ B1) := by show _ ≤ _; rw [← hB1]; exact HBB7.out.size
  have HB17 : Hid (B1 ≤ w7.heap.size) := by show _ ≤ _; omega
  clear hB1
  go_wp2_with fail
  go_loopw [12, 13, 14, 15, 16] (fun kv sv wv cv iv wr => ∃ (k : Nat) (es : List Ent) (ps : List Pc), k ≤ n8 ∧ iv = .int .i64 k ∧ cv = .int .i64 (cntF sg k : Int) ∧ wv = .bool (wantF sg gn k) ∧ Hid (FullI m sg k es (ps.map Pc.bs)) ∧ Hid (wr.ownsRow B1 29 8 kv k (cellsD (keysF k))) ∧ Hid (wr.ownsRow B1 23 1 sv k (ps.map Pc.v)) ∧ Hid (PcsOwn wr B1 ps) ∧ Hid (BookAt wr lo g es) ∧ Hid (Below w.heap.size w wr) ∧ Hid (Bk wr g7 29 (dl m)) ∧ Hid (B1 ≤ wr.heap.size)) (fun _ _ _ _ iv _ => n8 - (intOf iv).toNat)
  case atStart => exact ⟨0, [], [], Nat.zero_le _, rfl, rfl, rfl, FullI.zero m sg, World.ownsRow_nil _ _ _ _, World.ownsRow_nil _ _ _ _, PcsOwn.nil_ _ _, HBK7.out, HBB7.out, HMS7.out, HB17.out⟩
  case round =>
    obtain ⟨k, es, ps, hk, rfl, rfl, rfl, HF, HKEr, HSVr, HPOr, HBKr, HBBr, HMSr, HBr⟩ := hrel
    obtain ⟨ck, hck⟩ : ∃ c, cntF sg k = c := ⟨_, rfl⟩
    obtain ⟨wk, hwk⟩ : ∃ c, wantF sg gn k = c := ⟨_, rfl⟩
    have hck8 : ck ≤ 8 := by rw [← hck]; have := cntF_le sg k; omega
    have HCK := Lib.hid hck; have HWK := Lib.hid hwk
    rw [hck, hwk]
    clear hck hwk
    by_cases hlt : k < n8
    · have hki : (k : Int) < n8 := by omega
      have hkw : IntKind.u8.wrap (k : Int) = k := by rw [IntKind.wrap_u8]; omega
      have HKO : Hid (DgOk (keyF k)) := keyF_ok (by omega)
      go_wp2_with (first
        | ((with_reducible refine wpList_build rfl 29 _ rfl #[(0, .int .u8 (k : Int)), (1, .int .u8 5)] ?_ _ (build_kf k _) ?_); focus (simp [Act.eval]; done))
        | (with_reducible refine stop_bs 89 1 _ rfl ?_))
      refine StopD.go ?_
      (with_reducible refine wpList_bsliceG ?_ 89 1 _ rfl #[(0, .agg (dl (keyF k)).toArray)] ?_ 29 (dl (keyF k)) (bs_dg1 HKO.out) ?_)
      · rfl
      · simp [Act.eval]
      intro q20 w20 _ hq hbn
      have HB20 : Hid (B1 ≤ w20.heap.size) := Nat.le_trans HBr.out hbn.size
      have HQ20 : Hid (Sl w20 w20.heap.size 8 (some ⟨q20, 0, none⟩) 1 (dl (keyF k))) := hq.sl (by rw [dl_len, HKO.out.len]) (by omega) (fun _ _ h => h)
      clear hq
      have HBB20 := Lib.hid (below_then HBBr.out hbn)
      have HKE20 := Lib.hid (HKEr.out.later hbn)
      have HSV20 := Lib.hid (HSVr.out.later hbn)
      have HPO20 := Lib.hid (HPOr.out.later hbn)
      have HBK20 := Lib.hid (HBKr.out.later hbn)
      have HMS20 := Lib.hid (HMSr.out.later hbn)
      clear hbn
      go_wp2_with (at_builtin; refine wpList_app _ rfl (.tmp 46) (.tmp 50) 89 rfl B1 29 iD zD 8 8 Try.underlying89 hDi hDz hDs hDb hDc (by decide) _ k _ rfl HKE20.out _ _ 1 1 (dl (keyF k)) rfl HQ20.out (dl_one' _) (by unfold maxLen; omega) (by omega) HB20.out ?_; intro kv3 w21 hown hg hat; refine stop_here ?_)
      refine StopD.go ?_
      have HKE21 : Hid (w21.ownsRow B1 29 8 kv3 (k + 1) (cellsD (keysF (k + 1)))) := by show World.ownsRow _ _ _ _ _ _ _; rw [keysF_succ, cellsD_snoc]; exact hown
      have HSV21 := Lib.hid (own_apart HSV20.out HKE20.out (by decide) hg)
      have HPO21 := Lib.hid (HPO20.out.apart HKE20.out (by decide) hg)
      have HBK21 := Lib.hid (HBK20.out.own HKE20.out hg (by decide) (by decide))
      have HMS21 := Lib.hid (own_far HKE20.out HMS20.out HGB.out hg)
      have HBB21 := Lib.hid (grown_below HBB20.out HKE20.out hg HWB.out HBB20.out.size)
      have HB21 : Hid (B1 ≤ w21.heap.size) := Nat.le_trans HB20.out hg.size
      clear hown hg hat
      go_wp2_with (with_reducible refine stop_bs 90 1 _ rfl ?_)
      refine StopD.go ?_
      (with_reducible refine wpList_bsliceG ?_ 90 1 _ rfl #[(0, .slice none 0 0)] ?_ 23 [Value.slice none 0 0] bs_nil1 ?_)
      · rfl
      · simp [Act.eval]
      intro q22 w22 _ hq hbn
      have HB22 : Hid (B1 ≤ w22.heap.size) := Nat.le_trans HB21.out hbn.size
      have HQ22 : Hid (Sl w22 w22.heap.size 1 (some ⟨q22, 0, none⟩) 1 [Value.slice none 0 0]) := hq.sl1 rfl (by omega)
      clear hq
      have HBB22 := Lib.hid (below_then HBB21.out hbn)
      have HKE22 := Lib.hid (HKE21.out.later hbn)
      have HSV22 := Lib.hid (HSV21.out.later hbn)
      have HPO22 := Lib.hid (HPO21.out.later hbn)
      have HBK22 := Lib.hid (HBK21.out.later hbn)
      have HMS22 := Lib.hid (HMS21.out.later hbn)
      clear hbn
      go_wp2_with (at_builtin; refine wpList_app _ rfl (.tmp 52) (.tmp 53) 90 rfl B1 23 iP (.slice none 0 0) 1 24 Try.underlying90 hPi hPz hPs hPb rfl (by decide) _ k _ rfl HSV22.out _ _ 1 1 [Value.slice none 0 0] rfl HQ22.out (by simp [Value.oneCell']) (by unfold maxLen; omega) (by omega) HB22.out ?_; intro sv3 w23 hown hg hat; refine stop_here ?_)
      refine StopD.go ?_
      have HSV23 := Lib.hid hown
      have HKE23 := Lib.hid (own_apart HKE22.out HSV22.out (by decide) hg)
      have HPO23 := Lib.hid (HPO22.out.apart HSV22.out (by decide) hg)
      have HBK23 := Lib.hid (HBK22.out.own HSV22.out hg (by decide) (by decide))
      have HMS23 := Lib.hid (own_far HSV22.out HMS22.out HGB.out hg)
      have HBB23 := Lib.hid (grown_below HBB22.out HSV22.out hg HWB.out HBB22.out.size)
      have HB23 : Hid (B1 ≤ w23.heap.size) := Nat.le_trans HB22.out hg.size
      clear hown hg hat
      by_cases hs2 : k < Ns
      · obtain ⟨b4, o4, rfl, hcs⟩ := sl_at (HSS0.out.later HBB23.out) hs2
        have hk1 : (k : Int) < Ns := by omega
        have hk2 : decide ((k : Int) < Ns) = true := by simp; omega
        obtain ⟨bb, hbb⟩ : ∃ b, ss.getD k false = b := ⟨_, rfl⟩
        rw [hbb] at hcs
        have HBV : Hid (sg k = bb) := by show _ = _; rw [HSN.out k, hbb]
        clear hbb
        cases bb
        ·
          have HSG : Hid (sg k = false) := HBV
          have HFI := Lib.hid (HF.out.no HSG.out)
          have HC1 : Hid (cntF sg (k + 1) = ck) := by show _ = _; rw [cntF, HSG.out, HCK.out]; rfl
          by_cases hg2 : k < Ng
          · obtain ⟨b3, o3, rfl, hcg⟩ := sl_at (HG0.out.later HBB23.out) hg2
            have hk3 : (k : Int) < Ng := by omega
            have hk4 : decide ((Ng : Int) ≤ k) = false := by simp; omega
            have hk5 : ¬ ((Ng : Int) ≤ k) := by omega
            obtain ⟨bg, hbg⟩ : ∃ b, gs.getD k false = b := ⟨_, rfl⟩
            rw [hbg] at hcg
            have HBG : Hid (gn k = bg) := by show _ = _; rw [← HGN.out k, hbg]
            clear hbg
            cases bg
            · have HW1 : Hid (wantF sg gn (k + 1) = false) := by show _ = _; rw [wantF, HSG.out, HBG.out]; simp
              go_wp2_with fail
              go_roundw
              case rel => exact ⟨k + 1, es, ps ++ [⟨none, 0, 0, []⟩], by omega, by go_num, by rw [HC1.out] <;> go_num, by rw [HW1.out], (by show FullI _ _ _ _ _; rw [List.map_append]; exact HFI.out), HKE23.out, (by show World.ownsRow _ _ _ _ _ _ _; rw [List.map_append]; exact HSV23.out), (HPO23.out.snoc (World.ownsRow_nil _ _ _ _)), HBK23.out, HBB23.out, HMS23.out, HB23.out⟩
              case measure => simp [intOf]; omega
            · have HW1 : Hid (wantF sg gn (k + 1) = wk) := by show _ = _; rw [wantF, HSG.out, HBG.out, HWK.out]; simp
              go_wp2_with fail
              go_roundw
              case rel => exact ⟨k + 1, es, ps ++ [⟨none, 0, 0, []⟩], by omega, by go_num, by rw [HC1.out] <;> go_num, by rw [HW1.out], (by show FullI _ _ _ _ _; rw [List.map_append]; exact HFI.out), HKE23.out, (by show World.ownsRow _ _ _ _ _ _ _; rw [List.map_append]; exact HSV23.out), (HPO23.out.snoc (World.ownsRow_nil _ _ _ _)), HBK23.out, HBB23.out, HMS23.out, HB23.out⟩
              case measure => simp [intOf]; omega
          · have hk3 : ¬ ((k : Int) < Ng) := by omega
            have hk4 : decide ((Ng : Int) ≤ k) = true := by simp; omega
            have hk5 : (Ng : Int) ≤ k := by omega
            have HW1 : Hid (wantF sg gn (k + 1) = false) := by
              show _ = _
              have := HGN.out k
              rw [List.getD_eq_getElem?_getD, List.getElem?_eq_none (by rw [HGL.out]; omega)] at this
              rw [wantF, HSG.out, ← this]; simp
            go_wp2_with fail
            go_roundw
            case rel => exact ⟨k + 1, es, ps ++ [⟨none, 0, 0, []⟩], by omega, by go_num, by rw [HC1.out] <;> go_num, by rw [HW1.out], (by show FullI _ _ _ _ _; rw [List.map_append]; exact HFI.out), HKE23.out, (by show World.ownsRow _ _ _ _ _ _ _; rw [List.map_append]; exact HSV23.out), (HPO23.out.snoc (World.ownsRow_nil _ _ _ _)), HBK23.out, HBB23.out, HMS23.out, HB23.out⟩
            case measure => simp [intOf]; omega
        · have HW1 : Hid (wantF sg gn (k + 1) = wk) := by show _ = _; rw [wantF, HBV.out, HWK.out]; simp
          have HC1 : Hid (cntF sg (k + 1) = ck + 1) := by show _ = _; rw [cntF, HBV.out, HCK.out]; rfl
          have hcw : IntKind.i64.wrap ((ck : Int) + 1) = ((ck + 1 : Nat) : Int) := by rw [IntWalk.i64_in _ (by omega)]; omega
          have HFI := Lib.hid (HF.out.yes HBV.out (by omega))
          have hnew := HF.out.new
          have HNE := Lib.hid hnew
          have hle := HF.out.le
          obtain ⟨qk, ck3, rfl, hqB, hqw⟩ := own_block HKE23.out (by omega)
          have HKS23 := Lib.hid (Sl.of_own HKE23.out)
          obtain ⟨qs, cs3, rfl, hqB2, hqw2⟩ := own_block HSV23.out (by omega)
          have HKG : Hid ((keysF (k + 1))[k]? = some (keyF k)) := keysF_get (Nat.lt_succ_self k)
          have HKOK : Hid (DsOk (keysF (k + 1))) := keysF_ok (by omega)
          have HKD := Lib.hid (hdg_size (keyF k) HKO.out)
          have hkk : (k : Int) < (k : Int) + 1 := by omega
          clear hnew
          go_wp2_with fail
          refine wp_region_held_drew (S := fun w' => Bk w' g7 29 (dl m) ∧ w'.rangeAt qk (0 + k * 8) (dl (keyF k))) (by kernel_rfl) ⟨Bk.drew HMS23.out, (sl_dgl HKS23.out.drew HKOK.out HKG.out)⟩ (fun hHeld => ?_)
          refine wpAnyH_take (i := 0) (v := ?_) rfl (by kernel_rfl) (by kernel_rfl) (by kernel_rfl) (fun _ _ _ h => h) (Or.inl ⟨by rfl, ?_⟩) (by assumption) ?_
          rotate_left
          · intro w hSw
            (try dsimp only at hSw)
            go_simp
            try with_reducible rfl
          try simp only [Act.put, List.setIfInBounds_toArray, List.set_cons_zero, List.set_cons_succ, List.getElem_toArray, List.getElem_cons_zero]
          refine wpAnyH_take (i := 1) (v := ?_) rfl (by kernel_rfl) (by kernel_rfl) (by kernel_rfl) (fun _ _ _ h => h) (Or.inl ⟨by rfl, ?_⟩) (by assumption) ?_
          rotate_left
          · intro w hSw
            (try dsimp only at hSw)
            go_simp
            try with_reducible rfl
          try simp only [Act.put, List.setIfInBounds_toArray, List.set_cons_zero, List.set_cons_succ, List.getElem_toArray, List.getElem_cons_zero, List.getElem_cons_succ]
          refine wpAnyH_take (i := 2) (v := ?_) rfl (by kernel_rfl) (by kernel_rfl) (by kernel_rfl) (fun _ _ _ h => h) (Or.inl ⟨by rfl, ?_⟩) (by assumption) ?_
          rotate_left
          · intro w hSw
            (try dsimp only at hSw)
            go_simp
            try with_reducible rfl
          try simp only [Act.put, List.setIfInBounds_toArray, List.set_cons_zero, List.set_cons_succ, List.getElem_toArray, List.getElem_cons_zero, List.getElem_cons_succ]
          refine wpAnyH_take (i := 6) (v := .agg (List.toArray (dl m))) rfl (by kernel_rfl) (by kernel_rfl) (by kernel_rfl) (fun _ _ _ h => h) (yieldsIf_load_mid (by rfl) _ _ rfl _ _ rfl (dl m) _ (fun w hSw => (Bk.range (pre := []) (post := []) (by simpa using hSw.1) rfl)) Try.underlying29 rfl (HMD.out)) (by assumption) ?_
          try simp only [Act.put, List.setIfInBounds_toArray, List.set_cons_zero, List.set_cons_succ, List.getElem_toArray, List.getElem_cons_zero, List.getElem_cons_succ]
          refine wpAnyH_take (i := 3) (v := ?_) rfl (by kernel_rfl) (by kernel_rfl) (by kernel_rfl) (fun _ _ _ h => h) (Or.inl ⟨by rfl, ?_⟩) (by assumption) ?_
          rotate_left
          · intro w hSw
            (try dsimp only at hSw)
            go_simp
            try with_reducible rfl
          try simp only [Act.put, List.setIfInBounds_toArray, List.set_cons_zero, List.set_cons_succ, List.getElem_toArray, List.getElem_cons_zero, List.getElem_cons_succ]
          refine wpAnyH_take (i := 4) (v := .agg (List.toArray (dl (keyF k)))) rfl (by kernel_rfl) (by kernel_rfl) (by kernel_rfl) (fun _ _ _ h => h) (yieldsIf_load_mid (by rfl) _ _ rfl _ _ rfl (dl (keyF k)) _ (fun w hSw => (by simpa using hSw.2)) Try.underlying29 rfl (HKD.out)) (by assumption) ?_
          try simp only [Act.put, List.setIfInBounds_toArray, List.set_cons_zero, List.set_cons_succ, List.getElem_toArray, List.getElem_cons_zero, List.getElem_cons_succ]
          refine wpAnyH_ready (rs := [5]) (by kernel_rfl) (by simp) ?_
          refine AllReadyH.cons rfl (fun K hK => ?_) AllReadyH.nil
          go_simp
          (go_at_call 26; refine (signer_any w23.drew g (keyF k) HKO.out).mono ?_; rintro e w24 ⟨rfl, hbn⟩; have hbn := (below_draws w23 _ 1).trans hbn; have HB24 : Hid (B1 ≤ w24.heap.size) := Nat.le_trans HB23.out hbn.size; have HBB24 := Lib.hid (below_then HBB23.out hbn); have HKE24 := Lib.hid (HKE23.out.later hbn); have HSV24 := Lib.hid (HSV23.out.later hbn); have HPO24 := Lib.hid (HPO23.out.later hbn); have HBK24 := Lib.hid (HBK23.out.later hbn); have HMS24 := Lib.hid (HMS23.out.later hbn); have HKS24 := Lib.hid (HKS23.out.later hbn); clear hbn)
          refine hK.out _ _ (⟨HMS24.out, sl_dgl HKS24.out HKOK.out HKG.out⟩) (fun hHeld => ?_)
          clear hK K
          try simp only [Act.put, List.setIfInBounds_toArray, List.set_cons_zero, List.set_cons_succ, List.getElem_toArray, List.getElem_cons_zero, List.getElem_cons_succ]
          have hmt := meth_wr (wrC g (keyF k)).toArray
          refine wpAnyH_ready (rs := [7]) (by kernel_rfl) (by simp) ?_
          refine AllReadyH.cons rfl (fun K hK => ?_) AllReadyH.nil
          go_simp
          (refine (wsign_any w24 lo g es HBK24.out (keyF k) m HKO.out HMO.out (by omega) HBK24.out.lo_le).mono ?_; rintro e w25 ⟨⟨A25, c25, rfl, hown⟩, hbk25, hb25, hk25⟩; have HKE25 := Lib.hid (own_keeps HKE24.out hk25 (by decide) (by decide)); have HSV25 := Lib.hid (own_keeps HSV24.out hk25 (by decide) (by decide)); have HPO25 := Lib.hid (HPO24.out.keeps hk25); have HMS25 := Lib.hid (HMS24.out.keeps hk25 (by decide) (by decide)); have HBK25 := Lib.hid hbk25; have HBB25 := Lib.hid (HBB24.out.trans (hb25.mono HLO.out)); have HKS25 := Lib.hid (Sl.of_own HKE25.out); have HB25 : Hid (B1 ≤ w25.heap.size) := Nat.le_trans HB24.out hk25.size; have HSG25 := Lib.hid (own_base hown HB24.out); clear hown hbk25 hb25 hk25 hmt)
          refine hK.out _ _ (⟨HMS25.out, sl_dgl HKS25.out HKOK.out HKG.out⟩) (fun hHeld => ?_)
          clear hK K
          try simp only [Act.put, List.setIfInBounds_toArray, List.set_cons_zero, List.set_cons_succ, List.getElem_toArray, List.getElem_cons_zero, List.getElem_cons_succ]
          refine wpAnyH_take (i := 8) (v := ?_) rfl (by kernel_rfl) (by kernel_rfl) (by kernel_rfl) (fun _ _ _ h => h) (Or.inl ⟨by rfl, ?_⟩) (by assumption) ?_
          rotate_left
          · intro w hSw
            (try dsimp only at hSw)
            go_simp
            try with_reducible rfl
          try simp only [Act.put, List.setIfInBounds_toArray, List.set_cons_zero, List.set_cons_succ, List.getElem_toArray, List.getElem_cons_zero, List.getElem_cons_succ]
          refine wpAnyH_take (i := 9) (v := ?_) rfl (by kernel_rfl) (by kernel_rfl) (by kernel_rfl) (fun _ _ _ h => h) (Or.inl ⟨by rfl, ?_⟩) (by assumption) ?_
          rotate_left
          · intro w hSw
            (try dsimp only at hSw)
            go_simp
            try with_reducible rfl
          try simp only [Act.put, List.setIfInBounds_toArray, List.set_cons_zero, List.set_cons_succ, List.getElem_toArray, List.getElem_cons_zero, List.getElem_cons_succ]
          refine wpAnyH_take (i := 11) (v := ?_) rfl (by kernel_rfl) (by kernel_rfl) (by kernel_rfl) (fun _ _ _ h => h) (Or.inl ⟨by rfl, ?_⟩) (by assumption) ?_
          rotate_left
          · intro w hSw
            (try dsimp only at hSw)
            go_simp
            try with_reducible rfl
          try simp only [Act.put, List.setIfInBounds_toArray, List.set_cons_zero, List.set_cons_succ, List.getElem_toArray, List.getElem_cons_zero, List.getElem_cons_succ]
          refine wpAnyH_take (i := 10) (v := ?_) rfl (by kernel_rfl) (by kernel_rfl) (by kernel_rfl) (fun _ _ _ h => h) (Or.inl ⟨by rfl, ?_⟩) (by assumption) ?_
          rotate_left
          · intro w hSw
            (try dsimp only at hSw)
            go_simp
            try with_reducible rfl
          try simp only [Act.put, List.setIfInBounds_toArray, List.set_cons_zero, List.set_cons_succ, List.getElem_toArray, List.getElem_cons_zero, List.getElem_cons_succ]
          refine wpAnyH_take (i := 12) (v := ?_) rfl (by kernel_rfl) (by kernel_rfl) (by kernel_rfl) (fun _ _ _ h => h) (Or.inl ⟨by rfl, ?_⟩) (by assumption) ?_
          rotate_left
          · intro w hSw
            (try dsimp only at hSw)
            go_simp
            try with_reducible rfl
          try simp only [Act.put, List.setIfInBounds_toArray, List.set_cons_zero, List.set_cons_succ, List.getElem_toArray, List.getElem_cons_zero, List.getElem_cons_succ]
          refine wpAnyH_done (by kernel_rfl) ?_ _
          clear hHeld
          have hpk : (ps.map Pc.v).length = k := by have := HF.out.len; simpa using this
          obtain ⟨⟨old, hold⟩, hfr, hown, hg⟩ := own_put HSV25.out k (by omega) (.slice A25 2 c25)
          rw [set_last hpk] at hown
          obtain ⟨w26, hw26⟩ : ∃ w', w25.setCell ⟨qs, k, none⟩ (.slice A25 2 c25) = w' := ⟨_, rfl⟩
          rw [hw26] at hown hg
          have HSV26 := Lib.hid hown
          have HKE26 := Lib.hid (own_apart HKE25.out HSV25.out (by decide) hg)
          have HSG26 := Lib.hid (own_apart HSG25.out HSV25.out (by decide) hg)
          have HPO26 := Lib.hid (HPO25.out.apart HSV25.out (by decide) hg)
          have HBK26 := Lib.hid (HBK25.out.own HSV25.out hg (by decide) (by decide))
          have HMS26 := Lib.hid (own_far HSV25.out HMS25.out HGB.out hg)
          have HBB26 := Lib.hid (grown_below HBB25.out HSV25.out hg HWB.out HBB25.out.size)
          have HB26 : Hid (B1 ≤ w26.heap.size) := Nat.le_trans HB25.out hg.size
          rw [idx_new HNE.out] at HSG26
          rw [bookS_new HNE.out] at HBK26
          clear hown hg hpk
          go_wp2_with fail
          go_roundw
          case rel => exact ⟨k + 1, _, ps ++ [(⟨A25, 2, c25, sigB es.length⟩ : Pc)], by omega, by go_num, by rw [HC1.out] <;> go_num, by rw [HW1.out], (by show FullI _ _ _ _ _; rw [List.map_append]; exact HFI.out), HKE26.out, (by show World.ownsRow _ _ _ _ _ _ _; rw [List.map_append]; exact HSV26.out), (HPO26.out.snoc (p := ⟨A25, 2, c25, sigB es.length⟩) HSG26.out), HBK26.out, HBB26.out, HMS26.out, HB26.out⟩
          case measure => simp [intOf]; omega
      · have hk1 : ¬ ((k : Int) < Ns) := by omega
        have hk2 : decide ((k : Int) < Ns) = false := by simp; omega
        have HSG : Hid (sg k = false) := (by show _ = _; rw [HSN.out k, List.getD_eq_getElem?_getD, List.getElem?_eq_none (by rw [HSL.out]; omega)]; rfl)
        have HFI := Lib.hid (HF.out.no HSG.out)
        have HC1 : Hid (cntF sg (k + 1) = ck) := by show _ = _; rw [cntF, HSG.out, HCK.out]; rfl
        by_cases hg2 : k < Ng
        · obtain ⟨b3, o3, rfl, hcg⟩ := sl_at (HG0.out.later HBB23.out) hg2
          have hk3 : (k : Int) < Ng := by omega
          have hk4 : decide ((Ng : Int) ≤ k) = false := by simp; omega
          have hk5 : ¬ ((Ng : Int) ≤ k) := by omega
          obtain ⟨bg, hbg⟩ : ∃ b, gs.getD k false = b := ⟨_, rfl⟩
          rw [hbg] at hcg
          have HBG : Hid (gn k = bg) := by show _ = _; rw [← HGN.out k, hbg]
          clear hbg
          cases bg
          · have HW1 : Hid (wantF sg gn (k + 1) = false) := by show _ = _; rw [wantF, HSG.out, HBG.out]; simp
            go_wp2_with fail
            go_roundw
            case rel => exact ⟨k + 1, es, ps ++ [⟨none, 0, 0, []⟩], by omega, by go_num, by rw [HC1.out] <;> go_num, by rw [HW1.out], (by show FullI _ _ _ _ _; rw [List.map_append]; exact HFI.out), HKE23.out, (by show World.ownsRow _ _ _ _ _ _ _; rw [List.map_append]; exact HSV23.out), (HPO23.out.snoc (World.ownsRow_nil _ _ _ _)), HBK23.out, HBB23.out, HMS23.out, HB23.out⟩
            case measure => simp [intOf]; omega
          · have HW1 : Hid (wantF sg gn (k + 1) = wk) := by show _ = _; rw [wantF, HSG.out, HBG.out, HWK.out]; simp
            go_wp2_with fail
            go_roundw
            case rel => exact ⟨k + 1, es, ps ++ [⟨none, 0, 0, []⟩], by omega, by go_num, by rw [HC1.out] <;> go_num, by rw [HW1.out], (by show FullI _ _ _ _ _; rw [List.map_append]; exact HFI.out), HKE23.out, (by show World.ownsRow _ _ _ _ _ _ _; rw [List.map_append]; exact HSV23.out), (HPO23.out.snoc (World.ownsRow_nil _ _ _ _)), HBK23.out, HBB23.out, HMS23.out, HB23.out⟩
            case measure => simp [intOf]; omega
        · have hk3 : ¬ ((k : Int) < Ng) := by omega
          have hk4 : decide ((Ng : Int) ≤ k) = true := by simp; omega
          have hk5 : (Ng : Int) ≤ k := by omega
          have HW1 : Hid (wantF sg gn (k + 1) = false) := by
            show _ = _
            have := HGN.out k
            rw [List.getD_eq_getElem?_getD, List.getElem?_eq_none (by rw [HGL.out]; omega)] at this
            rw [wantF, HSG.out, ← this]; simp
          go_wp2_with fail
          go_roundw
          case rel => exact ⟨k + 1, es, ps ++ [⟨none, 0, 0, []⟩], by omega, by go_num, by rw [HC1.out] <;> go_num, by rw [HW1.out], (by show FullI _ _ _ _ _; rw [List.map_append]; exact HFI.out), HKE23.out, (by show World.ownsRow _ _ _ _ _ _ _; rw [List.map_append]; exact HSV23.out), (HPO23.out.snoc (World.ownsRow_nil _ _ _ _)), HBK23.out, HBB23.out, HMS23.out, HB23.out⟩
          case measure => simp [intOf]; omega
    · obtain rfl : k = n8 := by omega
      obtain ⟨qk, ck3, rfl, _, _⟩ := own_block HKEr.out (by omega)
      obtain ⟨qs, cs3, rfl, _, _⟩ := own_block HSVr.out (by omega)
      have hnk : k ≤ cs3 := by
        rcases own_bk HSVr.out with ⟨e, _, _⟩ | ⟨g', cap, ys, e, _, _, hnc, _⟩
        · cases e
        · injection e with _ _ e; omega
      have HBL : Hid (ps.length = k) := by show _ = _; have := HF.out.len; simpa using this
      have hver := HF.out.ver
      have HALL : Hid (allB es m (keysF k) ps (gs.take KG) = wk) := by show _ = _; rw [← HWK.out]; exact all_full es m sg gn k ps _ hver HFG.out
      have HCNT : Hid (cntB es m (keysF k) ps = ck) := by show _ = _; rw [← HCK.out]; exact cnt_full es m sg k ps HBL.out hver
      have hle := HF.out.le
      have HPB : Hid (PcsBy ps) := fun p hp => HF.out.by_ p.bs (List.mem_map_of_mem hp)
      have HPN : Hid (∀ p ∈ ps, p.n ≤ 4294967296) := fun p hp => by
        have h2 := HF.out.two p.bs (List.mem_map_of_mem hp)
        have := (HPOr.out p hp).1
        simp at this; omega
      have HKOK : Hid (DsOk (keysF k)) := keysF_ok (by omega)
      have HKSr := Lib.hid (Sl.of_own HKEr.out); have HPSr := Lib.hid (Sl.of_own HSVr.out); have HPCr : Hid (PcsOk wr ps) := HPOr.out.ok
      have HFSr := Lib.hid (HF0.out.later HBBr.out)
      have hcut := fun W => cut_run Try.underlying90 hPi (some ⟨qs, 0, none⟩) k cs3 1 1 rfl (by omega) W
      obtain ⟨Ac, hAc⟩ : ∃ A', (if cs3 = 1 then (some ⟨qs, 0, none⟩ : Option Addr) else (some ⟨qs, 0, none⟩ : Option Addr).map (·.add (1 * iP.size))) = A' := ⟨_, rfl⟩
      rw [hAc] at hcut
      have hcw := HCK.out
      clear hver hAc
      go_wp2_with fail
      refine wp_region_held_drew (S := fun w' => Bk w' g7 29 (dl m)) (by kernel_rfl) (Bk.drew HMSr.out) (fun hHeld => ?_)
      refine wpAnyH_take (i := 0) (v := ?_) rfl (by kernel_rfl) (by kernel_rfl) (by kernel_rfl) (fun _ _ _ h => h) (Or.inl ⟨by rfl, ?_⟩) (by assumption) ?_
      rotate_left
      · intro w hSw
        (try dsimp only at hSw)
        go_simp
        try with_reducible rfl
      try simp only [Act.put, List.setIfInBounds_toArray, List.set_cons_zero, List.set_cons_succ, List.getElem_toArray, List.getElem_cons_zero]
      refine wpAnyH_take (i := 2) (v := ?_) rfl (by kernel_rfl) (by kernel_rfl) (by kernel_rfl) (fun _ _ _ h => h) (Or.inl ⟨by rfl, ?_⟩) (by assumption) ?_
      rotate_left
      · intro w hSw
        (try dsimp only at hSw)
        go_simp
        try with_reducible rfl
      try simp only [Act.put, List.setIfInBounds_toArray, List.set_cons_zero, List.set_cons_succ, List.getElem_toArray, List.getElem_cons_zero, List.getElem_cons_succ]
      refine wpAnyH_take (i := 3) (v := ?_) rfl (by kernel_rfl) (by kernel_rfl) (by kernel_rfl) (fun _ _ _ h => h) (Or.inl ⟨by rfl, ?_⟩) (by assumption) ?_
      rotate_left
      · intro w hSw
        (try dsimp only at hSw)
        go_simp
        try with_reducible rfl
      try simp only [Act.put, List.setIfInBounds_toArray, List.set_cons_zero, List.set_cons_succ, List.getElem_toArray, List.getElem_cons_zero, List.getElem_cons_succ]
      refine wpAnyH_take (i := 5) (v := ?_) rfl (by kernel_rfl) (by kernel_rfl) (by kernel_rfl) (fun _ _ _ h => h) (Or.inl ⟨by rfl, ?_⟩) (by assumption) ?_
      rotate_left
      · intro w hSw
        (try dsimp only at hSw)
        go_simp
        try with_reducible rfl
      try simp only [Act.put, List.setIfInBounds_toArray, List.set_cons_zero, List.set_cons_succ, List.getElem_toArray, List.getElem_cons_zero, List.getElem_cons_succ]
      refine wpAnyH_take (i := 7) (v := ?_) rfl (by kernel_rfl) (by kernel_rfl) (by kernel_rfl) (fun _ _ _ h => h) (Or.inl ⟨by rfl, ?_⟩) (by assumption) ?_
      rotate_left
      · intro w hSw
        (try dsimp only at hSw)
        go_simp
        try with_reducible rfl
      try simp only [Act.put, List.setIfInBounds_toArray, List.set_cons_zero, List.set_cons_succ, List.getElem_toArray, List.getElem_cons_zero, List.getElem_cons_succ]
      refine wpAnyH_take (i := 4) (v := .agg (List.toArray (dl m))) rfl (by kernel_rfl) (by kernel_rfl) (by kernel_rfl) (fun _ _ _ h => h) (yieldsIf_load_mid (by rfl) _ _ rfl _ _ rfl (dl m) _ (fun w hSw => (Bk.range (pre := []) (post := []) (by simpa using hSw) rfl)) Try.underlying29 rfl (HMD.out)) (by assumption) ?_
      try simp only [Act.put, List.setIfInBounds_toArray, List.set_cons_zero, List.set_cons_succ, List.getElem_toArray, List.getElem_cons_zero, List.getElem_cons_succ]
      refine wpAnyH_take (i := 1) (v := ?_) rfl (by kernel_rfl) (by kernel_rfl) (by kernel_rfl) (fun _ _ _ h => h) (Or.inl ⟨by rfl, ?_⟩) (by assumption) ?_
      rotate_left
      · intro w hSw
        (try dsimp only at hSw)
        go_simp
        try with_reducible rfl
      try simp only [Act.put, List.setIfInBounds_toArray, List.set_cons_zero, List.set_cons_succ, List.getElem_toArray, List.getElem_cons_zero, List.getElem_cons_succ]
      refine wpAnyH_ready (rs := [6]) (by kernel_rfl) (by simp) ?_
      refine AllReadyH.cons rfl (fun K hK => ?_) AllReadyH.nil
      go_simp
      (go_at_call 48; refine (full_any wr.drew lo g es (HBKr.out.later (below_draws wr _ 1)) (by omega) (some ⟨qk, 0, none⟩) k ck3 (keysF k) HKSr.out.drew HKOK.out (by omega) (by omega) m HMO.out (some ⟨qs, 0, none⟩) cs3 ps HPSr.out.drew (HPCr.out.later (below_draws wr _ 1)) HPB.out HPN.out Ag KG Cg (gs.take KG) HFSr.out.drew).mono ?_; rw [HALL.out]; rintro e w30 ⟨rfl, hbn⟩; have hbn := (below_draws wr _ 1).trans hbn; have HBB30 := Lib.hid (below_then HBBr.out hbn); have HBK30 := Lib.hid (HBKr.out.later hbn); have HKS30 := Lib.hid (HKSr.out.later hbn); have HPS30 := Lib.hid (HPSr.out.later hbn); have HPC30 := Lib.hid (HPCr.out.later hbn); have HMS30 := Lib.hid (HMSr.out.later hbn); have HFS30 := Lib.hid (HFSr.out.later hbn); clear hbn)
      refine hK.out _ _ (HMS30.out) (fun hHeld => ?_)
      clear hK K
      try simp only [Act.put, List.setIfInBounds_toArray, List.set_cons_zero, List.set_cons_succ, List.getElem_toArray, List.getElem_cons_zero, List.getElem_cons_succ]
      refine wpAnyH_take (i := 8) (v := ?_) rfl (by kernel_rfl) (by kernel_rfl) (by kernel_rfl) (fun _ _ _ h => h) (Or.inl ⟨by rfl, ?_⟩) (by assumption) ?_
      rotate_left
      · intro w hSw
        (try dsimp only at hSw)
        go_simp
        try with_reducible rfl
      try simp only [Act.put, List.setIfInBounds_toArray, List.set_cons_zero, List.set_cons_succ, List.getElem_toArray, List.getElem_cons_zero, List.getElem_cons_succ]
      refine wpAnyH_take (i := 9) (v := ?_) rfl (by kernel_rfl) (by kernel_rfl) (by kernel_rfl) (fun _ _ _ h => h) (Or.inl ⟨by rfl, ?_⟩) (by assumption) ?_
      rotate_left
      · intro w hSw
        (try dsimp only at hSw)
        go_simp
        try with_reducible rfl
      try simp only [Act.put, List.setIfInBounds_toArray, List.set_cons_zero, List.set_cons_succ, List.getElem_toArray, List.getElem_cons_zero, List.getElem_cons_succ]
      refine wpAnyH_take (i := 10) (v := ?_) rfl (by kernel_rfl) (by kernel_rfl) (by kernel_rfl) (fun _ _ _ h => h) (Or.inl ⟨by rfl, ?_⟩) (by assumption) ?_
      rotate_left
      · intro w hSw
        (try dsimp only at hSw)
        go_simp
        try with_reducible rfl
      try simp only [Act.put, List.setIfInBounds_toArray, List.set_cons_zero, List.set_cons_succ, List.getElem_toArray, List.getElem_cons_zero, List.getElem_cons_succ]
      refine wpAnyH_take (i := 12) (v := ?_) rfl (by kernel_rfl) (by kernel_rfl) (by kernel_rfl) (fun _ _ _ h => h) (Or.inl ⟨by rfl, ?_⟩) (by assumption) ?_
      rotate_left
      · intro w hSw
        (try dsimp only at hSw)
        go_simp
        try with_reducible rfl
      try simp only [Act.put, List.setIfInBounds_toArray, List.set_cons_zero, List.set_cons_succ, List.getElem_toArray, List.getElem_cons_zero, List.getElem_cons_succ]
      refine wpAnyH_take (i := 14) (v := ?_) rfl (by kernel_rfl) (by kernel_rfl) (by kernel_rfl) (fun _ _ _ h => h) (Or.inl ⟨by rfl, ?_⟩) (by assumption) ?_
      rotate_left
      · intro w hSw
        (try dsimp only at hSw)
        go_simp
        try with_reducible rfl
      try simp only [Act.put, List.setIfInBounds_toArray, List.set_cons_zero, List.set_cons_succ, List.getElem_toArray, List.getElem_cons_zero, List.getElem_cons_succ]
      refine wpAnyH_take (i := 16) (v := ?_) rfl (by kernel_rfl) (by kernel_rfl) (by kernel_rfl) (fun _ _ _ h => h) (Or.inl ⟨by rfl, ?_⟩) (by assumption) ?_
      rotate_left
      · intro w hSw
        (try dsimp only at hSw)
        go_simp
        try with_reducible rfl
      try simp only [Act.put, List.setIfInBounds_toArray, List.set_cons_zero, List.set_cons_succ, List.getElem_toArray, List.getElem_cons_zero, List.getElem_cons_succ]
      refine wpAnyH_take (i := 13) (v := .agg (List.toArray (dl m))) rfl (by kernel_rfl) (by kernel_rfl) (by kernel_rfl) (fun _ _ _ h => h) (yieldsIf_load_mid (by rfl) _ _ rfl _ _ rfl (dl m) _ (fun w hSw => (Bk.range (pre := []) (post := []) (by simpa using hSw) rfl)) Try.underlying29 rfl (HMD.out)) (by assumption) ?_
      try simp only [Act.put, List.setIfInBounds_toArray, List.set_cons_zero, List.set_cons_succ, List.getElem_toArray, List.getElem_cons_zero, List.getElem_cons_succ]
      refine wpAnyH_take (i := 11) (v := ?_) rfl (by kernel_rfl) (by kernel_rfl) (by kernel_rfl) (fun _ _ _ h => h) (Or.inl ⟨by rfl, ?_⟩) (by assumption) ?_
      rotate_left
      · intro w hSw
        (try dsimp only at hSw)
        go_simp
        try with_reducible rfl
      try simp only [Act.put, List.setIfInBounds_toArray, List.set_cons_zero, List.set_cons_succ, List.getElem_toArray, List.getElem_cons_zero, List.getElem_cons_succ]
      refine wpAnyH_ready (rs := [15]) (by kernel_rfl) (by simp) ?_
      refine AllReadyH.cons rfl (fun K hK => ?_) AllReadyH.nil
      go_simp
      (go_at_call 49; refine (count_any w30 lo g es HBK30.out (by omega) (some ⟨qk, 0, none⟩) k ck3 (keysF k) HKS30.out HKOK.out (by omega) m HMO.out (some ⟨qs, 0, none⟩) k cs3 ps HPS30.out HPC30.out HPB.out).mono ?_; rw [HCNT.out]; rintro e w31 ⟨rfl, hbn⟩; have HBB31 := Lib.hid (below_then HBB30.out hbn); have HMS31 := Lib.hid (HMS30.out.later hbn); clear hbn)
      refine hK.out _ _ (HMS31.out) (fun hHeld => ?_)
      clear hK K
      try simp only [Act.put, List.setIfInBounds_toArray, List.set_cons_zero, List.set_cons_succ, List.getElem_toArray, List.getElem_cons_zero, List.getElem_cons_succ]
      refine wpAnyH_take (i := 17) (v := ?_) rfl (by kernel_rfl) (by kernel_rfl) (by kernel_rfl) (fun _ _ _ h => h) (Or.inl ⟨by rfl, ?_⟩) (by assumption) ?_
      rotate_left
      · intro w hSw
        (try dsimp only at hSw)
        go_simp
        try with_reducible rfl
      try simp only [Act.put, List.setIfInBounds_toArray, List.set_cons_zero, List.set_cons_succ, List.getElem_toArray, List.getElem_cons_zero, List.getElem_cons_succ]
      refine wpAnyH_take (i := 18) (v := ?_) rfl (by kernel_rfl) (by kernel_rfl) (by kernel_rfl) (fun _ _ _ h => h) (Or.inl ⟨by rfl, ?_⟩) (by assumption) ?_
      rotate_left
      · intro w hSw
        (try dsimp only at hSw)
        go_simp
        try with_reducible rfl
      try simp only [Act.put, List.setIfInBounds_toArray, List.set_cons_zero, List.set_cons_succ, List.getElem_toArray, List.getElem_cons_zero, List.getElem_cons_succ]
      refine wpAnyH_take (i := 19) (v := ?_) rfl (by kernel_rfl) (by kernel_rfl) (by kernel_rfl) (fun _ _ _ h => h) (Or.inl ⟨by rfl, ?_⟩) (by assumption) ?_
      rotate_left
      · intro w hSw
        (try dsimp only at hSw)
        go_simp
        try with_reducible rfl
      try simp only [Act.put, List.setIfInBounds_toArray, List.set_cons_zero, List.set_cons_succ, List.getElem_toArray, List.getElem_cons_zero, List.getElem_cons_succ]
      refine wpAnyH_take (i := 20) (v := ?_) rfl (by kernel_rfl) (by kernel_rfl) (by kernel_rfl) (fun _ _ _ h => h) (Or.inl ⟨by rfl, ?_⟩) (by assumption) ?_
      rotate_left
      · intro w hSw
        (try dsimp only at hSw)
        go_simp
        try with_reducible rfl
      try simp only [Act.put, List.setIfInBounds_toArray, List.set_cons_zero, List.set_cons_succ, List.getElem_toArray, List.getElem_cons_zero, List.getElem_cons_succ]
      refine wpAnyH_take (i := 22) (v := ?_) rfl (by kernel_rfl) (by kernel_rfl) (by kernel_rfl) (fun _ _ _ h => h) (Or.inl ⟨by rfl, ?_⟩) (by assumption) ?_
      rotate_left
      · intro w hSw
        (try dsimp only at hSw)
        go_simp
        try with_reducible rfl
      try simp only [Act.put, List.setIfInBounds_toArray, List.set_cons_zero, List.set_cons_succ, List.getElem_toArray, List.getElem_cons_zero, List.getElem_cons_succ]
      refine wpAnyH_take (i := 23) (v := ?_) rfl (by kernel_rfl) (by kernel_rfl) (by kernel_rfl) (fun _ _ _ h => h) (Or.inl ⟨by rfl, ?_⟩) (by assumption) ?_
      rotate_left
      · intro w hSw
        (try dsimp only at hSw)
        go_simp
        try with_reducible rfl
      try simp only [Act.put, List.setIfInBounds_toArray, List.set_cons_zero, List.set_cons_succ, List.getElem_toArray, List.getElem_cons_zero, List.getElem_cons_succ]
      refine wpAnyH_take (i := 25) (v := ?_) rfl (by kernel_rfl) (by kernel_rfl) (by kernel_rfl) (fun _ _ _ h => h) (Or.inl ⟨by rfl, ?_⟩) (by assumption) ?_
      rotate_left
      · intro w hSw
        (try dsimp only at hSw)
        go_simp
        try with_reducible rfl
      try simp only [Act.put, List.setIfInBounds_toArray, List.set_cons_zero, List.set_cons_succ, List.getElem_toArray, List.getElem_cons_zero, List.getElem_cons_succ]
      refine wpAnyH_take (i := 24) (v := .agg (List.toArray (dl m))) rfl (by kernel_rfl) (by kernel_rfl) (by kernel_rfl) (fun _ _ _ h => h) (yieldsIf_load_mid (by rfl) _ _ rfl _ _ rfl (dl m) _ (fun w hSw => (Bk.range (pre := []) (post := []) (by simpa using hSw) rfl)) Try.underlying29 rfl (HMD.out)) (by assumption) ?_
      try simp only [Act.put, List.setIfInBounds_toArray, List.set_cons_zero, List.set_cons_succ, List.getElem_toArray, List.getElem_cons_zero, List.getElem_cons_succ]
      refine wpAnyH_take (i := 21) (v := ?_) rfl (by kernel_rfl) (by kernel_rfl) (by kernel_rfl) (fun _ _ _ h => h) (Or.inl ⟨by rfl, ?_⟩) (by assumption) ?_
      rotate_left
      · intro w hSw
        (try dsimp only at hSw)
        go_simp
        try with_reducible rfl
      try simp only [Act.put, List.setIfInBounds_toArray, List.set_cons_zero, List.set_cons_succ, List.getElem_toArray, List.getElem_cons_zero, List.getElem_cons_succ]
      refine wpAnyH_take (i := 26) (v := ?_) rfl (by kernel_rfl) (by kernel_rfl) (by kernel_rfl) (fun _ _ _ h => h) (Or.inl ⟨by rfl, ?_⟩) (by assumption) ?_
      rotate_left
      · intro w hSw
        (try dsimp only at hSw)
        go_simp
        try with_reducible rfl
      try simp only [Act.put, List.setIfInBounds_toArray, List.set_cons_zero, List.set_cons_succ, List.getElem_toArray, List.getElem_cons_zero, List.getElem_cons_succ]
      refine wpAnyH_ready (rs := [27]) (by kernel_rfl) (by simp) ?_
      refine AllReadyH.cons rfl (fun K hK => ?_) AllReadyH.nil
      go_simp
      (go_at_call 48; refine (full_len w31 _ (some ⟨qk, 0, none⟩) Ac Ag k ck3 (k - 1) (cs3 - 1) KG Cg m HMO.out (by omega)).mono ?_; rintro e w32 ⟨rfl, hbn⟩; have HBB32 := Lib.hid (below_then HBB31.out hbn); have HMS32 := Lib.hid (HMS31.out.later hbn); clear hbn)
      refine hK.out _ _ (HMS32.out) (fun hHeld => ?_)
      clear hK K
      try simp only [Act.put, List.setIfInBounds_toArray, List.set_cons_zero, List.set_cons_succ, List.getElem_toArray, List.getElem_cons_zero, List.getElem_cons_succ]
      refine wpAnyH_take (i := 28) (v := ?_) rfl (by kernel_rfl) (by kernel_rfl) (by kernel_rfl) (fun _ _ _ h => h) (Or.inl ⟨by rfl, ?_⟩) (by assumption) ?_
      rotate_left
      · intro w hSw
        (try dsimp only at hSw)
        go_simp
        try with_reducible rfl
      try simp only [Act.put, List.setIfInBounds_toArray, List.set_cons_zero, List.set_cons_succ, List.getElem_toArray, List.getElem_cons_zero, List.getElem_cons_succ]
      refine wpAnyH_take (i := 29) (v := ?_) rfl (by kernel_rfl) (by kernel_rfl) (by kernel_rfl) (fun _ _ _ h => h) (Or.inl ⟨by rfl, ?_⟩) (by assumption) ?_
      rotate_left
      · intro w hSw
        (try dsimp only at hSw)
        go_simp
        try with_reducible rfl
      try simp only [Act.put, List.setIfInBounds_toArray, List.set_cons_zero, List.set_cons_succ, List.getElem_toArray, List.getElem_cons_zero, List.getElem_cons_succ]
      refine wpAnyH_take (i := 30) (v := ?_) rfl (by kernel_rfl) (by kernel_rfl) (by kernel_rfl) (fun _ _ _ h => h) (Or.inl ⟨by rfl, ?_⟩) (by assumption) ?_
      rotate_left
      · intro w hSw
        (try dsimp only at hSw)
        go_simp
        try with_reducible rfl
      try simp only [Act.put, List.setIfInBounds_toArray, List.set_cons_zero, List.set_cons_succ, List.getElem_toArray, List.getElem_cons_zero, List.getElem_cons_succ]
      refine wpAnyH_take (i := 31) (v := ?_) rfl (by kernel_rfl) (by kernel_rfl) (by kernel_rfl) (fun _ _ _ h => h) (Or.inl ⟨by rfl, ?_⟩) (by assumption) ?_
      rotate_left
      · intro w hSw
        (try dsimp only at hSw)
        go_simp
        try with_reducible rfl
      try simp only [Act.put, List.setIfInBounds_toArray, List.set_cons_zero, List.set_cons_succ, List.getElem_toArray, List.getElem_cons_zero, List.getElem_cons_succ]
      refine wpAnyH_take (i := 33) (v := ?_) rfl (by kernel_rfl) (by kernel_rfl) (by kernel_rfl) (fun _ _ _ h => h) (Or.inl ⟨by rfl, ?_⟩) (by assumption) ?_
      rotate_left
      · intro w hSw
        (try dsimp only at hSw)
        go_simp
        try with_reducible rfl
      try simp only [Act.put, List.setIfInBounds_toArray, List.set_cons_zero, List.set_cons_succ, List.getElem_toArray, List.getElem_cons_zero, List.getElem_cons_succ]
      refine wpAnyH_take (i := 32) (v := .agg (List.toArray (dl m))) rfl (by kernel_rfl) (by kernel_rfl) (by kernel_rfl) (fun _ _ _ h => h) (yieldsIf_load_mid (by rfl) _ _ rfl _ _ rfl (dl m) _ (fun w hSw => (Bk.range (pre := []) (post := []) (by simpa using hSw) rfl)) Try.underlying29 rfl (HMD.out)) (by assumption) ?_
      try simp only [Act.put, List.setIfInBounds_toArray, List.set_cons_zero, List.set_cons_succ, List.getElem_toArray, List.getElem_cons_zero, List.getElem_cons_succ]
      refine wpAnyH_ready (rs := [34]) (by kernel_rfl) (by simp) ?_
      refine AllReadyH.cons rfl (fun K hK => ?_) AllReadyH.nil
      go_simp
      (go_at_call 49; refine (count_nil w32 (some ⟨qk, 0, none⟩) (some ⟨qs, 0, none⟩) k ck3 k cs3 m).mono ?_; rintro e w33 ⟨rfl, hbn⟩; have HBB33 := Lib.hid (below_then HBB32.out hbn); have HMS33 := Lib.hid (HMS32.out.later hbn); clear hbn)
      refine hK.out _ _ (HMS33.out) (fun hHeld => ?_)
      clear hK K
      try simp only [Act.put, List.setIfInBounds_toArray, List.set_cons_zero, List.set_cons_succ, List.getElem_toArray, List.getElem_cons_zero, List.getElem_cons_succ]
      refine wpAnyH_take (i := 35) (v := ?_) rfl (by kernel_rfl) (by kernel_rfl) (by kernel_rfl) (fun _ _ _ h => h) (Or.inl ⟨by rfl, ?_⟩) (by assumption) ?_
      rotate_left
      · intro w hSw
        (try dsimp only at hSw)
        go_simp
        try with_reducible rfl
      try simp only [Act.put, List.setIfInBounds_toArray, List.set_cons_zero, List.set_cons_succ, List.getElem_toArray, List.getElem_cons_zero, List.getElem_cons_succ]
      refine wpAnyH_take (i := 36) (v := ?_) rfl (by kernel_rfl) (by kernel_rfl) (by kernel_rfl) (fun _ _ _ h => h) (Or.inl ⟨by rfl, ?_⟩) (by assumption) ?_
      rotate_left
      · intro w hSw
        (try dsimp only at hSw)
        go_simp
        try with_reducible rfl
      try simp only [Act.put, List.setIfInBounds_toArray, List.set_cons_zero, List.set_cons_succ, List.getElem_toArray, List.getElem_cons_zero, List.getElem_cons_succ]
      refine wpAnyH_take (i := 37) (v := ?_) rfl (by kernel_rfl) (by kernel_rfl) (by kernel_rfl) (fun _ _ _ h => h) (Or.inl ⟨by rfl, ?_⟩) (by assumption) ?_
      rotate_left
      · intro w hSw
        (try dsimp only at hSw)
        go_simp
        try with_reducible rfl
      try simp only [Act.put, List.setIfInBounds_toArray, List.set_cons_zero, List.set_cons_succ, List.getElem_toArray, List.getElem_cons_zero, List.getElem_cons_succ]
      refine wpAnyH_done (by kernel_rfl) ?_ _
      clear hHeld
      go_wp2_with fail
      go_ret
      exact ⟨rfl, HBB33.out⟩
end Go.Proofs.Ythibihjblodfmaa
