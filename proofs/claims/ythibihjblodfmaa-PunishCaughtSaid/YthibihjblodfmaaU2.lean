/- What two things show: the asks, each. -/
import Derived.Test.YthibihjblodfmaaU1
namespace Go.Proofs.Ythibihjblodfmaa
open Go.RowKit Go.Maps

def unlG (b : Bool) (e : Int) : Int := if b = true then 0 else e
theorem unless_any (w : World) (b : Bool) (e : Int) : Calls Try.prog 84 #[.bool b, .int .i64 e] w fun en w' => en = .returned (.int .i64 (unlG b e)) ∧ w = w' := by
  cases b
  · go_enter Try.func84, Try.ntmps84
    go_wp2_with fail
    go_ret
    exact ⟨rfl, rfl⟩
  · go_enter Try.func84, Try.ntmps84
    go_wp2_with fail
    go_ret
    exact ⟨rfl, rfl⟩
/-- The boxes of Twice: those of its parameters from z on, a's place from p on, b's from q on, 'signed' in r. -/
structure TwB (w : World) (lo g : Nat) (es : List Ent) (z p q r : Nat) (tb ky : List Int) (ca cb : List Value) (A B : Tg) : Prop where
  v : Bk w z 156 [.iface 49 (.pointer (some ⟨g, 0, none⟩))]
  t : Bk w (z + 1) 29 (dl tb)
  k : Bk w (z + 2) 29 (dl ky)
  a : Bk w (z + 3) 35 ca
  b : Bk w (z + 4) 35 cb
  ta : Bk w p 29 (dl (placeT A.k A.t A.u))
  na : Bk w (p + 1) 3 [.int .i64 (placeN A.k A.n A.m)]
  aa : Bk w (p + 2) 29 (dl (placeA A.k A.v))
  tb' : Bk w q 29 (dl (placeT B.k B.t B.u))
  nb : Bk w (q + 1) 3 [.int .i64 (placeN B.k B.n B.m)]
  ab : Bk w (q + 2) 29 (dl (placeA B.k B.v))
  s : Bk w r 46 [.func (.func 82) #[] #[.pointer (some ⟨z, 0, none⟩), .pointer (some ⟨z + 2, 0, none⟩)]]
  bk : BookAt w lo g es
  ga : Thg w ca A
  gb : Thg w cb B
  tbo : DgOk tb
  kyo : DgOk ky
  el : es.length ≤ 65536
theorem TwB.later {w w' : World} {lo g : Nat} {es : List Ent} {z p q r : Nat} {tb ky : List Int} {ca cb : List Value} {A B : Tg} (h : TwB w lo g es z p q r tb ky ca cb A B) (hb : Below w.heap.size w w') : TwB w' lo g es z p q r tb ky ca cb A B :=
  ⟨h.v.later hb, h.t.later hb, h.k.later hb, h.a.later hb, h.b.later hb, h.ta.later hb, h.na.later hb, h.aa.later hb, h.tb'.later hb, h.nb.later hb, h.ab.later hb, h.s.later hb, h.bk.later hb, h.ga.later hb, h.gb.later hb, h.tbo, h.kyo, h.el⟩
theorem placeT_ok {k : Int} {t u : List Int} (ht : DgOk t) (hu : DgOk u) : DgOk (placeT k t u) := by
  unfold placeT; split
  · exact ht
  · split
    · exact hu
    · exact zero_ok
theorem placeA_ok {k : Int} {v : List Int} (hv : DgOk v) : DgOk (placeA k v) := by
  unfold placeA; split
  · exact zero_ok
  · split
    · exact hv
    · exact zero_ok
set_option maxRecDepth 20000 in
set_option maxHeartbeats 4000000 in
theorem signed_any (w : World) (lo g : Nat) (es : List Ent) (z y : Nat) (ky : List Int) (cs : List Value) (T : Tg) (hbk : BookAt w lo g es) (hel : es.length ≤ 65536) (hko : DgOk ky) (hg : Thg w cs T)
    (hv : Bk w z 156 [.iface 49 (.pointer (some ⟨g, 0, none⟩))]) (hk : Bk w y 29 (dl ky)) :
    Calls Try.prog 82 #[.agg cs.toArray, .pointer (some ⟨z, 0, none⟩), .pointer (some ⟨y, 0, none⟩)] w fun e w' => e = .returned (.bool (verB es (ky, dgT T) T.ss)) ∧ Below w.heap.size w w' := by
  obtain ⟨X, hX⟩ : ∃ X, cs.toArray = X := ⟨_, rfl⟩
  obtain ⟨w1, hw1⟩ : ∃ w1, w.alloc (.cells X 35) = w1 := ⟨_, rfl⟩
  have hb1 : Below w.heap.size w w1 := hw1 ▸ below_new w _
  have kx : Bk w1 w.heap.size 35 cs := hw1 ▸ Bk.new' w _ X (by rw [← hX])
  have HW := Lib.hid hw1; have HBB1 := Lib.hid hb1; have HX1 := Lib.hid kx; have HV1 := Lib.hid (hv.later hb1); have HK1 := Lib.hid (hk.later hb1); have HBK1 := Lib.hid (hbk.later hb1); have HG1 := Lib.hid (hg.later hb1)
  have HKO := Lib.hid hko
  obtain ⟨⟨A1, A2, A3, N1, N2, N3, C1, C2, C3, hcs, hsl⟩, a, b, c, d⟩ := hg.later hb1
  have HC : Hid (∀ w', Bk w' w.heap.size 35 cs → w'.cell? ⟨w.heap.size, 29, none⟩ = some (.slice A3 N3 C3)) := fun w' h' => by rw [hcs] at h'; exact (th_mem a b c h').c29
  have HS1 := Lib.hid hsl.s; have HSO := Lib.hid hsl.so
  obtain ⟨D, hD⟩ : ∃ D, dgT T = D := ⟨_, rfl⟩
  have HDO : Hid (DgOk D) := hD ▸ dgT_ok T
  have HDG := Lib.hid (fun w' h' => thDigest (w := w') (h' : Thg w' cs T))
  rw [hD] at HDG ⊢
  obtain ⟨V, hV⟩ : ∃ V, verB es (ky, D) T.ss = V := ⟨_, rfl⟩
  have HVE := Lib.hid hV
  rw [hX, hV]
  clear hX hw1 hb1 kx hv hk hbk hg hko hcs hsl a b c d hD hV
  go_enter Try.func82, Try.ntmps82
  go_upto_region 1 with fail
  rw [HW.out]
  go_wp2_with fail
  refine wp_region_held_drew (S := fun w' => Bk w' z 156 [.iface 49 (.pointer (some ⟨g, 0, none⟩))] ∧ Bk w' y 29 (dl ky) ∧ Bk w' w.heap.size 35 cs) (by kernel_rfl) ⟨Bk.drew HV1.out, Bk.drew HK1.out, Bk.drew HX1.out⟩ (fun hHeld => ?_)
  refine wpAnyH_take (i := 0) (v := ?_) rfl (by kernel_rfl) (by kernel_rfl) (by kernel_rfl) (fun _ _ _ h => h) (Or.inl ⟨by rfl, ?_⟩) (by assumption) ?_
  rotate_left
  · intro w hSw
    have hcell := (one_cell hSw.1)
    clear hSw
    go_simp
    try with_reducible rfl
  try simp only [Act.put, List.setIfInBounds_toArray, List.set_cons_zero, List.set_cons_succ, List.getElem_toArray, List.getElem_cons_zero, List.getElem_cons_succ]
  refine wpAnyH_take (i := 1) (v := .agg (List.toArray (dl ky))) rfl (by kernel_rfl) (by kernel_rfl) (by kernel_rfl) (fun _ _ _ h => h) (yieldsIf_load_mid (by rfl) _ _ rfl _ _ rfl (dl ky) _ (fun w hSw => (Bk.range (pre := []) (post := []) (by simpa using hSw.2.1) rfl)) Try.underlying29 rfl ((dg_sz HKO.out))) (by assumption) ?_
  try simp only [Act.put, List.setIfInBounds_toArray, List.set_cons_zero, List.set_cons_succ, List.getElem_toArray, List.getElem_cons_zero, List.getElem_cons_succ]
  refine wpAnyH_take (i := 2) (v := .agg (List.toArray (cs))) rfl (by kernel_rfl) (by kernel_rfl) (by kernel_rfl) (fun _ _ _ h => h) (yieldsIf_load_mid (by rfl) _ _ rfl _ _ rfl (cs) _ (fun w hSw => (Bk.range (pre := []) (post := []) (by simpa using hSw.2.2) rfl)) Try.underlying35 rfl (HG1.out.info)) (by assumption) ?_
  try simp only [Act.put, List.setIfInBounds_toArray, List.set_cons_zero, List.set_cons_succ, List.getElem_toArray, List.getElem_cons_zero, List.getElem_cons_succ]
  refine wpAnyH_take (i := 4) (v := ?_) rfl (by kernel_rfl) (by kernel_rfl) (by kernel_rfl) (fun _ _ _ h => h) (Or.inl ⟨by rfl, ?_⟩) (by assumption) ?_
  rotate_left
  · intro w hSw
    (try dsimp only at hSw)
    go_simp
    try with_reducible rfl
  try simp only [Act.put, List.setIfInBounds_toArray, List.set_cons_zero, List.set_cons_succ, List.getElem_toArray, List.getElem_cons_zero, List.getElem_cons_succ]
  refine wpAnyH_take (i := 5) (v := ?_) rfl (by kernel_rfl) (by kernel_rfl) (by kernel_rfl) (fun _ _ _ h => h) (Or.inl ⟨by rfl, ?_⟩) (by assumption) ?_
  rotate_left
  · intro w hSw
    have hcell := (HC.out w hSw.2.2)
    clear hSw
    go_simp
    try with_reducible rfl
  try simp only [Act.put, List.setIfInBounds_toArray, List.set_cons_zero, List.set_cons_succ, List.getElem_toArray, List.getElem_cons_zero, List.getElem_cons_succ]
  refine wpAnyH_take (i := 6) (v := ?_) rfl (by kernel_rfl) (by kernel_rfl) (by kernel_rfl) (fun _ _ _ h => h) (Or.inl ⟨by rfl, ?_⟩) (by assumption) ?_
  rotate_left
  · intro w hSw
    (try dsimp only at hSw)
    go_simp
    try with_reducible rfl
  try simp only [Act.put, List.setIfInBounds_toArray, List.set_cons_zero, List.set_cons_succ, List.getElem_toArray, List.getElem_cons_zero, List.getElem_cons_succ]
  refine wpAnyH_take (i := 7) (v := ?_) rfl (by kernel_rfl) (by kernel_rfl) (by kernel_rfl) (fun _ _ _ h => h) (Or.inl ⟨by rfl, ?_⟩) (by assumption) ?_
  rotate_left
  · intro w hSw
    have hcell := nil_book g
    clear hSw
    go_simp
    try with_reducible rfl
  try simp only [Act.put, List.setIfInBounds_toArray, List.set_cons_zero, List.set_cons_succ, List.getElem_toArray, List.getElem_cons_zero, List.getElem_cons_succ]
  refine wpAnyH_take (i := 8) (v := ?_) rfl (by kernel_rfl) (by kernel_rfl) (by kernel_rfl) (fun _ _ _ h => h) (Or.inl ⟨by rfl, ?_⟩) (by assumption) ?_
  rotate_left
  · intro w hSw
    (try dsimp only at hSw)
    go_simp
    try with_reducible rfl
  try simp only [Act.put, List.setIfInBounds_toArray, List.set_cons_zero, List.set_cons_succ, List.getElem_toArray, List.getElem_cons_zero, List.getElem_cons_succ]
  refine wpAnyH_ready (rs := [3]) (by kernel_rfl) (by simp) ?_
  refine AllReadyH.cons rfl (fun K hK => ?_) AllReadyH.nil
  go_simp
  (go_at_call 28; refine (HDG.out _ (HG1.out.later (below_draws w1 _ 1))).mono ?_; rintro e w2 ⟨rfl, hbn⟩; have hbn := (below_draws w1 _ 1).trans hbn; have HBB2 := Lib.hid (below_then HBB1.out hbn); have HX2 := Lib.hid (HX1.out.later hbn); have HV2 := Lib.hid (HV1.out.later hbn); have HK2 := Lib.hid (HK1.out.later hbn); have HBK2 := Lib.hid (HBK1.out.later hbn); have HS2 := Lib.hid (HS1.out.later hbn); clear hbn)
  refine hK.out _ _ (⟨HV2.out, HK2.out, HX2.out⟩) (fun hHeld => ?_)
  clear hK K
  try simp only [Act.put, List.setIfInBounds_toArray, List.set_cons_zero, List.set_cons_succ, List.getElem_toArray, List.getElem_cons_zero, List.getElem_cons_succ]
  have hmt := meth_book g
  refine wpAnyH_ready (rs := [9]) (by kernel_rfl) (by simp) ?_
  refine AllReadyH.cons rfl (fun K hK => ?_) AllReadyH.nil
  go_simp
  (refine (verify_any w2 lo g es HBK2.out ky D HKO.out HDO.out hel A3 N3 C3 T.ss HS2.out HSO.out).mono ?_; rw [HVE.out]; rintro e w3 ⟨rfl, hbn⟩; have HBB3 := Lib.hid (below_then HBB2.out hbn); have HX3 := Lib.hid (HX2.out.later hbn); have HV3 := Lib.hid (HV2.out.later hbn); have HK3 := Lib.hid (HK2.out.later hbn); clear hbn)
  refine hK.out _ _ (⟨HV3.out, HK3.out, HX3.out⟩) (fun hHeld => ?_)
  clear hK K
  try simp only [Act.put, List.setIfInBounds_toArray, List.set_cons_zero, List.set_cons_succ, List.getElem_toArray, List.getElem_cons_zero, List.getElem_cons_succ]
  clear hmt
  refine wpAnyH_take (i := 10) (v := ?_) rfl (by kernel_rfl) (by kernel_rfl) (by kernel_rfl) (fun _ _ _ h => h) (Or.inl ⟨by rfl, ?_⟩) (by assumption) ?_
  rotate_left
  · intro w hSw
    (try dsimp only at hSw)
    go_simp
    try with_reducible rfl
  try simp only [Act.put, List.setIfInBounds_toArray, List.set_cons_zero, List.set_cons_succ, List.getElem_toArray, List.getElem_cons_zero, List.getElem_cons_succ]
  refine wpAnyH_done (by kernel_rfl) ?_ _
  clear hHeld
  go_wp2_with fail
  go_ret
  exact ⟨rfl, HBB3.out⟩
section
variable {w : World} {lo g : Nat} {es : List Ent} {z p q r : Nat} {tb ky : List Int} {ca cb : List Value} {A B : Tg}
theorem thk_cell {w : World} {cs : List Value} {T : Tg} {g : Nat} (h : Thg w cs T) (hb : Bk w g 35 cs) : w.cell? ⟨g, 0, none⟩ = some (.int .i64 T.k) := by
  obtain ⟨⟨A1, A2, A3, N1, N2, N3, C1, C2, C3, rfl, h2⟩, a, b, c, d⟩ := h
  exact (th_mem a b c hb).c0
theorem ask2_any (h : TwB w lo g es z p q r tb ky ca cb A B) : Calls Try.prog 83 #[.pointer (some ⟨z + 3, 0, none⟩), .pointer (some ⟨z + 4, 0, none⟩)] w fun e w' => e = .returned (.int .i64 (unlG (A.k == B.k) 11)) ∧ Below w.heap.size w w' := by
  have c1 := thk_cell h.ga h.a; have c2 := thk_cell h.gb h.b
  obtain ⟨b, hb⟩ : ∃ b, (A.k == B.k) = b := ⟨_, rfl⟩
  rw [hb]
  clear h
  go_enter Try.func83, Try.ntmps83
  go_wp2_with fail
  refine (unless_any w b 11).mono ?_
  rintro e w' ⟨rfl, rfl⟩
  go_wp2_with fail
  go_ret
  exact ⟨rfl, Below.refl _ _⟩
set_option maxHeartbeats 2000000 in
theorem ask3_any (h : TwB w lo g es z p q r tb ky ca cb A B) : Calls Try.prog 85 #[.pointer (some ⟨p, 0, none⟩), .pointer (some ⟨z + 1, 0, none⟩), .pointer (some ⟨q, 0, none⟩)] w fun e w' => e = .returned (.int .i64 (unlG (eqL (placeT A.k A.t A.u) tb && eqL (placeT B.k B.t B.u) tb) 6)) ∧ Below w.heap.size w w' := by
  have HA := Lib.hid h.ta; have HB := Lib.hid h.tb'; have HT := Lib.hid h.t
  have o1 := placeT_ok (k := A.k) h.ga.ht h.ga.hu; have o2 := placeT_ok (k := B.k) h.gb.ht h.gb.hu
  have h1 := dg_eq_run _ _ o1 h.tbo; have h2 := dg_eq_run _ _ o2 h.tbo
  have z1 := Lib.hid (dg_sz o1); have z2 := Lib.hid (dg_sz o2); have z3 := Lib.hid (dg_sz h.tbo)
  obtain ⟨b1, hb1⟩ : ∃ b, eqL (placeT A.k A.t A.u) tb = b := ⟨_, rfl⟩
  obtain ⟨b2, hb2⟩ : ∃ b, eqL (placeT B.k B.t B.u) tb = b := ⟨_, rfl⟩
  rw [hb1] at h1 ⊢
  rw [hb2] at h2 ⊢
  obtain ⟨x, hx⟩ : ∃ x, placeT A.k A.t A.u = x := ⟨_, rfl⟩
  obtain ⟨y, hy⟩ : ∃ y, placeT B.k B.t B.u = y := ⟨_, rfl⟩
  rw [hx] at HA h1 z1
  rw [hy] at HB h2 z2
  clear h o1 o2 hb1 hb2 hx hy
  cases b1
  all_goals
    go_enter Try.func85, Try.ntmps85
    go_wp2_with (first
      | ((with_reducible refine wpList_load_bkG ?_ 29 _ rfl p rfl (dl x) 29 HA.out _ Try.underlying29 rfl z1.out ?_); rfl)
      | ((with_reducible refine wpList_load_bkG ?_ 29 _ rfl q rfl (dl y) 29 HB.out _ Try.underlying29 rfl z2.out ?_); rfl)
      | ((with_reducible refine wpList_load_bkG ?_ 29 _ rfl (z + 1) rfl (dl tb) 29 HT.out _ Try.underlying29 rfl z3.out ?_); rfl))
    refine (unless_any w _ 6).mono ?_
    rintro e w' ⟨rfl, rfl⟩
    go_wp2_with fail
    go_ret
    exact ⟨rfl, Below.refl _ _⟩
set_option maxHeartbeats 2000000 in
theorem ask4_any (h : TwB w lo g es z p q r tb ky ca cb A B) : Calls Try.prog 86 #[.pointer (some ⟨p + 1, 0, none⟩), .pointer (some ⟨q + 1, 0, none⟩), .pointer (some ⟨p + 2, 0, none⟩), .pointer (some ⟨q + 2, 0, none⟩)] w fun e w' => e = .returned (.int .i64 (unlG ((placeN A.k A.n A.m == placeN B.k B.n B.m) && eqL (placeA A.k A.v) (placeA B.k B.v)) 18)) ∧ Below w.heap.size w w' := by
  have HA := Lib.hid h.aa; have HB := Lib.hid h.ab
  have o1 := placeA_ok (k := A.k) h.ga.hv; have o2 := placeA_ok (k := B.k) h.gb.hv
  have h1 := dg_eq_run _ _ o1 o2
  have z1 := Lib.hid (dg_sz o1); have z2 := Lib.hid (dg_sz o2)
  have c1 := one_cell h.na; have c2 := one_cell h.nb
  obtain ⟨b1, hb1⟩ : ∃ b, (placeN A.k A.n A.m == placeN B.k B.n B.m) = b := ⟨_, rfl⟩
  obtain ⟨b2, hb2⟩ : ∃ b, eqL (placeA A.k A.v) (placeA B.k B.v) = b := ⟨_, rfl⟩
  rw [hb2] at h1 ⊢
  rw [hb1]
  obtain ⟨x, hx⟩ : ∃ x, placeA A.k A.v = x := ⟨_, rfl⟩
  obtain ⟨y, hy⟩ : ∃ y, placeA B.k B.v = y := ⟨_, rfl⟩
  rw [hx] at HA h1 z1
  rw [hy] at HB h1 z2
  clear h o1 o2 hb2 hx hy
  cases b1
  all_goals
    go_enter Try.func86, Try.ntmps86
    go_wp2_with (first
      | ((with_reducible refine wpList_load_bkG ?_ 29 _ rfl (p + 2) rfl (dl x) 29 HA.out _ Try.underlying29 rfl z1.out ?_); rfl)
      | ((with_reducible refine wpList_load_bkG ?_ 29 _ rfl (q + 2) rfl (dl y) 29 HB.out _ Try.underlying29 rfl z2.out ?_); rfl))
    refine (unless_any w _ 18).mono ?_
    rintro e w' ⟨rfl, rfl⟩
    go_wp2_with fail
    go_ret
    exact ⟨rfl, Below.refl _ _⟩
set_option maxRecDepth 20000 in
set_option maxHeartbeats 4000000 in
theorem ask5_any (h : TwB w lo g es z p q r tb ky ca cb A B) : Calls Try.prog 87 #[.pointer (some ⟨z + 3, 0, none⟩), .pointer (some ⟨z + 4, 0, none⟩)] w fun e w' => e = .returned (.int .i64 (unlG (!(eqL (dgT A) (dgT B))) 7)) ∧ Below w.heap.size w w' := by
  have HT := Lib.hid h
  have h1 := dg_eq_run _ _ (dgT_ok A) (dgT_ok B)
  have HDA := Lib.hid (fun w' h' => thDigest (w := w') (h' : Thg w' ca A)); have HDB := Lib.hid (fun w' h' => thDigest (w := w') (h' : Thg w' cb B))
  obtain ⟨b1, hb1⟩ : ∃ b, eqL (dgT A) (dgT B) = b := ⟨_, rfl⟩
  rw [hb1] at h1 ⊢
  obtain ⟨x, hx⟩ : ∃ x, dgT A = x := ⟨_, rfl⟩
  obtain ⟨y, hy⟩ : ∃ y, dgT B = y := ⟨_, rfl⟩
  rw [hx] at h1 HDA
  rw [hy] at h1 HDB
  have HBB1 : Hid (Below w.heap.size w w) := Below.refl _ _
  clear h hb1 hx hy
  go_enter Try.func87, Try.ntmps87
  go_wp2_with fail
  refine wp_region_held_drew (S := fun w' => Bk w' (z + 3) 35 ca ∧ Bk w' (z + 4) 35 cb) (by kernel_rfl) ⟨Bk.drew HT.out.a, Bk.drew HT.out.b⟩ (fun hHeld => ?_)
  refine wpAnyH_take (i := 0) (v := .agg (List.toArray (ca))) rfl (by kernel_rfl) (by kernel_rfl) (by kernel_rfl) (fun _ _ _ h => h) (yieldsIf_load_mid (by rfl) _ _ rfl _ _ rfl (ca) _ (fun w hSw => (Bk.range (pre := []) (post := []) (by simpa using hSw.1) rfl)) Try.underlying35 rfl (HT.out.ga.info)) (by assumption) ?_
  try simp only [Act.put, List.setIfInBounds_toArray, List.set_cons_zero, List.set_cons_succ, List.getElem_toArray, List.getElem_cons_zero, List.getElem_cons_succ]
  refine wpAnyH_take (i := 2) (v := .agg (List.toArray (cb))) rfl (by kernel_rfl) (by kernel_rfl) (by kernel_rfl) (fun _ _ _ h => h) (yieldsIf_load_mid (by rfl) _ _ rfl _ _ rfl (cb) _ (fun w hSw => (Bk.range (pre := []) (post := []) (by simpa using hSw.2) rfl)) Try.underlying35 rfl (HT.out.gb.info)) (by assumption) ?_
  try simp only [Act.put, List.setIfInBounds_toArray, List.set_cons_zero, List.set_cons_succ, List.getElem_toArray, List.getElem_cons_zero, List.getElem_cons_succ]
  refine wpAnyH_ready (rs := [1]) (by kernel_rfl) (by simp) ?_
  refine AllReadyH.cons rfl (fun K hK => ?_) AllReadyH.nil
  go_simp
  (go_at_call 28; refine (HDA.out _ (HT.out.later (below_draws w _ 1)).ga).mono ?_; rintro e w2 ⟨rfl, hbn⟩; have hbn := (below_draws w _ 1).trans hbn; have HT2 := Lib.hid (HT.out.later hbn); have HBB2 := Lib.hid (below_then HBB1.out hbn); clear hbn)
  refine hK.out _ _ (⟨HT2.out.a, HT2.out.b⟩) (fun hHeld => ?_)
  clear hK K
  try simp only [Act.put, List.setIfInBounds_toArray, List.set_cons_zero, List.set_cons_succ, List.getElem_toArray, List.getElem_cons_zero, List.getElem_cons_succ]
  refine wpAnyH_ready (rs := [3]) (by kernel_rfl) (by simp) ?_
  refine AllReadyH.cons rfl (fun K hK => ?_) AllReadyH.nil
  go_simp
  (go_at_call 28; refine (HDB.out _ HT2.out.gb).mono ?_; rintro e w3 ⟨rfl, hbn⟩; have HT3 := Lib.hid (HT2.out.later hbn); have HBB3 := Lib.hid (below_then HBB2.out hbn); clear hbn)
  refine hK.out _ _ (⟨HT3.out.a, HT3.out.b⟩) (fun hHeld => ?_)
  clear hK K
  try simp only [Act.put, List.setIfInBounds_toArray, List.set_cons_zero, List.set_cons_succ, List.getElem_toArray, List.getElem_cons_zero, List.getElem_cons_succ]
  refine wpAnyH_take (i := 4) (v := ?_) rfl (by kernel_rfl) (by kernel_rfl) (by kernel_rfl) (fun _ _ _ h => h) (Or.inl ⟨by rfl, ?_⟩) (by assumption) ?_
  rotate_left
  · intro w hSw
    (try dsimp only at hSw)
    go_simp
    try with_reducible rfl
  try simp only [Act.put, List.setIfInBounds_toArray, List.set_cons_zero, List.set_cons_succ, List.getElem_toArray, List.getElem_cons_zero, List.getElem_cons_succ]
  refine wpAnyH_ready (rs := [5]) (by kernel_rfl) (by simp) ?_
  refine AllReadyH.cons rfl (fun K hK => ?_) AllReadyH.nil
  go_simp
  (go_at_call 84; refine (unless_any w3 _ 7).mono ?_; rintro e w4 ⟨rfl, rfl⟩)
  refine hK.out _ _ (hHeld) (fun hHeld => ?_)
  clear hK K
  try simp only [Act.put, List.setIfInBounds_toArray, List.set_cons_zero, List.set_cons_succ, List.getElem_toArray, List.getElem_cons_zero, List.getElem_cons_succ]
  refine wpAnyH_take (i := 6) (v := ?_) rfl (by kernel_rfl) (by kernel_rfl) (by kernel_rfl) (fun _ _ _ h => h) (Or.inl ⟨by rfl, ?_⟩) (by assumption) ?_
  rotate_left
  · intro w hSw
    (try dsimp only at hSw)
    go_simp
    try with_reducible rfl
  try simp only [Act.put, List.setIfInBounds_toArray, List.set_cons_zero, List.set_cons_succ, List.getElem_toArray, List.getElem_cons_zero, List.getElem_cons_succ]
  refine wpAnyH_done (by kernel_rfl) ?_ _
  clear hHeld
  go_wp2_with fail
  go_ret
  exact ⟨rfl, HBB3.out⟩
end
end Go.Proofs.Ythibihjblodfmaa
