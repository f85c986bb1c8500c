/- What is signed of a payout. -/
import Derived.Test.YtbclfjdamklbpaaS3
namespace Go.Proofs.Ytbclfjdamklbpaa
open Go.RowKit

def pyC (t : List Int) (p : Value) : List Value := dl t ++ [p]
def pyT (zs : List Int) : List Int := zs.flatMap fun z => numB (foldI z)
def pyB (t : List Int) (zs : List Int) : List Int := lstB txtPay ++ (lstB t ++ (numB zs.length ++ pyT zs))
def I64Ok (zs : List Int) : Prop := ∀ z ∈ zs, -9223372036854775808 ≤ z ∧ z < 9223372036854775808
theorem pyT_ok {zs : List Int} (h : I64Ok zs) : ByOk (pyT zs) := fun b hb => by
  obtain ⟨z, hz, hb⟩ := List.mem_flatMap.1 hb
  exact numB_ok (fold_lt (h z hz).1 (h z hz).2) b hb
theorem pyT_le : ∀ (zs : List Int), (pyT zs).length ≤ 10 * zs.length
  | [] => by simp [pyT]
  | z :: zs => by
    have := pyT_le zs; have := numB_le (foldI z)
    simp only [pyT, List.flatMap_cons, List.length_append, List.length_cons] at *; omega
theorem pyB_ok {t zs : List Int} (ht : DgOk t) (h : I64Ok zs) (hl : zs.length ≤ 4294967296) : ByOk (pyB t zs) :=
  byOk_app (lstB_ok txt_ok.2.2 (by decide)) (byOk_app (lstB_ok ht.byt (by rw [ht.len]; omega)) (byOk_app (numB_ok (by omega)) (pyT_ok h)))
theorem pyB_le {t zs : List Int} (ht : DgOk t) : (pyB t zs).length ≤ 10 * zs.length + 60 := by
  have h1 := lstB_len txtPay; have h2 := lstB_len t; have h3 := numB_le zs.length; have h4 := pyT_le zs; have h5 : txtPay.length = 3 := rfl
  simp only [pyB, List.length_append]; have := ht.len; omega
theorem pyT_take {zs : List Int} {k : Nat} {z : Int} (h : zs[k]? = some z) : pyT (zs.take (k + 1)) = pyT (zs.take k) ++ numB (foldI z) := by rw [take_snoc h]; simp [pyT]
structure PyM (w : World) (g : Nat) (t : List Int) (p : Value) : Prop where
  c8 : w.cell? ⟨g, 8, none⟩ = some p
  r0 : w.rangeAt g 0 (dl t)
theorem py_mem {w : World} {g : Nat} {t : List Int} {p : Value} {ty : TypeId} (ht : DgOk t) (h : Bk w g ty (pyC t p)) : PyM w g t p := by
  have lt := ht.len
  have h1 : Bk w g ty (dl t ++ p :: []) := h
  have h3 : Bk w g ty ([] ++ (dl t ++ [p])) := h
  exact ⟨h1.at1 (by simp [dl_len, lt]), h3.range rfl⟩

/-- Each piece is the call's own. -/
def PcsOwn (w : World) (base : Nat) (ps : List Pc) : Prop := ∀ p ∈ ps, w.ownsRow base 5 1 p.v p.n (p.bs.map (.int .u8))
theorem PcsOwn.ok {w : World} {base : Nat} {ps : List Pc} (h : PcsOwn w base ps) : PcsOk w ps := fun p hp => Sl.of_own (h p hp)
theorem PcsOwn.later {w w' : World} {base : Nat} {ps : List Pc} (h : PcsOwn w base ps) (hb : Below w.heap.size w w') : PcsOwn w' base ps := fun p hp => own_keep (h p hp) hb
theorem own_apart {w w' : World} {b1 b2 s1 s2 n1 n2 : Nat} {e1 e2 : TypeId} {v1 v2 : Value} {xs ys : List Value} (h : w.ownsRow b1 e1 s1 v1 n1 xs) (h' : w.ownsRow b2 e2 s2 v2 n2 ys) (hne : e1 ≠ e2) (hg : w.grownBy w' v2.ownBlock) : w'.ownsRow b1 e1 s1 v1 n1 xs := by
  rcases own_bk h' with ⟨rfl, _⟩ | ⟨g, cap, zs, rfl, _, hb, _⟩
  · exact h.kept hg (by cases v1.ownBlock <;> simp [Value.ownBlock])
  · exact own_only h hg (own_bk_ne h hb hne)
theorem PcsOwn.apart {w w' : World} {base b2 s2 n2 : Nat} {e2 : TypeId} {v2 : Value} {ys : List Value} {ps : List Pc} (h : PcsOwn w base ps) (h' : w.ownsRow b2 e2 s2 v2 n2 ys) (hne : 5 ≠ e2) (hg : w.grownBy w' v2.ownBlock) : PcsOwn w' base ps :=
  fun p hp => own_apart (h p hp) h' hne hg
theorem PcsOwn.add {w w' : World} {base : Nat} {ps : List Pc} {p : Pc} (h : PcsOwn w base ps) (hb : Below w.heap.size w w') (hp : PcsOwn w' base [p]) : PcsOwn w' base (ps ++ [p]) := fun q hq => by
  rcases List.mem_append.1 hq with hq | hq
  · exact h.later hb q hq
  · exact hp q hq
theorem own_pc2 {w w' : World} {base base' : Nat} {bs : List Int} {v : Value} (h : OwnB base bs w v w') (hb : base' ≤ base) : ∃ A n c, v = .slice A n c ∧ PcsOwn w' base' [⟨A, n, c, bs⟩] := by
  obtain ⟨A, c, rfl⟩ := h.form
  exact ⟨A, bs.length, c, rfl, fun p hp => by rw [List.mem_singleton] at hp; subst hp; exact own_base h.1 hb⟩
theorem Try.infoSlB : (Try.prog.info? 56).map (fun i => (i.zero, i.size, i.bytes)) = some (some (.slice none 0 0), 1, 24) := by kernel_rfl
theorem pcs_one (ps : List Pc) : ∀ u ∈ ps.map Pc.v, u.oneCell' = true := by
  intro u hu; obtain ⟨z, _, rfl⟩ := List.mem_map.1 hu; rfl

set_option maxRecDepth 20000 in
set_option maxHeartbeats 2000000 in
theorem pdigest_any (w : World) (t : List Int) (ht : DgOk t) (A : Option Addr) (N C : Nat) (zs : List Int) (hs : Sl w w.heap.size 1 A N (zs.map (.int .i64))) (hpo : I64Ok zs) (hN : N ≤ 1000000) :
    Calls Try.prog 39 #[.agg (pyC t (.slice A N C)).toArray] w fun e w' => e = .returned (.agg (dl (ofI (pyB t zs))).toArray) ∧ Below w.heap.size w w' := by
  obtain ⟨X, hX⟩ : ∃ X, (pyC t (.slice A N C)).toArray = X := ⟨_, rfl⟩
  obtain ⟨w1, hw1⟩ : ∃ w1, (w.alloc (.cells X 90)).alloc (.cells #[.int .u8 0, .int .u8 0, .int .u8 0, .int .u8 0, .int .u8 0, .int .u8 0, .int .u8 0, .int .u8 0] 23) = w1 := ⟨_, rfl⟩
  have hb1 : Below w.heap.size w w1 := hw1 ▸ (below_new w _).alloc (by simp) _
  have kx : Bk w1 w.heap.size 90 (pyC t (.slice A N C)) := hw1 ▸ (Bk.new' w _ X (by rw [← hX])).alloc _
  have kz : Bk w1 (w.heap.size + 1) 23 ([] ++ (dl zeroD ++ [])) := hw1 ▸ Bk.at_ _ _ _ (by simp) rfl
  have HW := Lib.hid hw1; have HB1 := Lib.hid hb1; have HK1 := Lib.hid kx; have HZ1 := Lib.hid kz; have HS1 := Lib.hid (hs.later hb1); have HT := Lib.hid ht; have HPO := Lib.hid hpo
  have HP1 : Hid (PcsOwn w1 w.heap.size []) := by intro p hp; simp at hp
  have HPL := Lib.hid hs.length
  obtain ⟨i0, hi, hi0, hi1, hi2⟩ := info_parts Try.infoSlB
  rw [hX]
  clear hX hw1 hb1 kx kz hs hpo ht
  go_enter Try.func39, Try.ntmps39
  go_upto_region 1 with fail
  rw [HW.out]
  go_wp2_with fail
  refine wp_region_held_drew (S := fun w' => Bk w' w.heap.size 90 (pyC t (.slice A N C))) (by kernel_rfl) (Bk.drew HK1.out) (fun hHeld => ?_)
  refine wpAnyH_take (i := 1) (v := ?_) rfl (by kernel_rfl) (by kernel_rfl) (by kernel_rfl) (fun _ _ _ h => h) (Or.inl ⟨by rfl, ?_⟩) (by assumption) ?_
  rotate_left
  · intro w hSw
    (try dsimp only at hSw)
    go_simp
    try with_reducible rfl
  try simp only [Act.put, List.setIfInBounds_toArray, List.set_cons_zero, List.set_cons_succ, List.getElem_toArray, List.getElem_cons_zero, List.getElem_cons_succ]
  refine wpAnyH_take (i := 2) (v := ?_) rfl (by kernel_rfl) (by kernel_rfl) (by kernel_rfl) (fun _ _ _ h => h) (Or.inl ⟨by rfl, ?_⟩) (by assumption) ?_
  rotate_left
  · intro w hSw
    (try dsimp only at hSw)
    go_simp
    try with_reducible rfl
  try simp only [Act.put, List.setIfInBounds_toArray, List.set_cons_zero, List.set_cons_succ, List.getElem_toArray, List.getElem_cons_zero, List.getElem_cons_succ]
  refine wpAnyH_take (i := 4) (v := ?_) rfl (by kernel_rfl) (by kernel_rfl) (by kernel_rfl) (fun _ _ _ h => h) (Or.inl ⟨by rfl, ?_⟩) (by assumption) ?_
  rotate_left
  · intro w hSw
    (try dsimp only at hSw)
    go_simp
    try with_reducible rfl
  try simp only [Act.put, List.setIfInBounds_toArray, List.set_cons_zero, List.set_cons_succ, List.getElem_toArray, List.getElem_cons_zero, List.getElem_cons_succ]
  refine wpAnyH_take (i := 5) (v := ?_) rfl (by kernel_rfl) (by kernel_rfl) (by kernel_rfl) (fun _ _ _ h => h) (Or.inl ⟨by rfl, ?_⟩) (by assumption) ?_
  rotate_left
  · intro w hSw
    have hcell := (py_mem HT.out hSw).c8
    clear hSw
    go_simp
    try with_reducible rfl
  try simp only [Act.put, List.setIfInBounds_toArray, List.set_cons_zero, List.set_cons_succ, List.getElem_toArray, List.getElem_cons_zero, List.getElem_cons_succ]
  refine wpAnyH_take (i := 6) (v := ?_) rfl (by kernel_rfl) (by kernel_rfl) (by kernel_rfl) (fun _ _ _ h => h) (Or.inl ⟨by rfl, ?_⟩) (by assumption) ?_
  rotate_left
  · intro w hSw
    (try dsimp only at hSw)
    go_simp
    try with_reducible rfl
  try simp only [Act.put, List.setIfInBounds_toArray, List.set_cons_zero, List.set_cons_succ, List.getElem_toArray, List.getElem_cons_zero, List.getElem_cons_succ]
  refine wpAnyH_ready (rs := [0]) (by kernel_rfl) (by simp) ?_
  refine AllReadyH.cons rfl (fun K hK => ?_) AllReadyH.nil
  go_simp
  (go_at_call 71; refine (stext_any _ _ (by decide)).mono ?_; rintro e w2 ⟨v2, rfl, hown⟩; have hb : Below w1.heap.size w1 w2 := (below_draws w1 _ 1).trans hown.2; have hz := HB1.out.size; obtain ⟨A2, n2, c2, rfl, hp⟩ := own_pc2 (base' := w.heap.size) hown hz; have HP2 := Lib.hid (HP1.out.add hb hp); have HB2 := Lib.hid (below_then HB1.out hb); have HK2 := Lib.hid (HK1.out.later hb); have HZ2 := Lib.hid (HZ1.out.later hb); have HS2 := Lib.hid (HS1.out.later hb); clear hown hb hp hz)
  refine hK.out _ _ (HK2.out) (fun hHeld => ?_)
  clear hK K
  try simp only [Act.put, List.setIfInBounds_toArray, List.set_cons_zero, List.set_cons_succ, List.getElem_toArray, List.getElem_cons_zero, List.getElem_cons_succ]
  refine wpAnyH_ready (rs := [3]) (by kernel_rfl) (by simp) ?_
  refine AllReadyH.cons rfl (fun K hK => ?_) AllReadyH.nil
  go_simp
  (go_at_call 72; refine (slist_any _ (some ⟨w.heap.size, 0, none⟩) 8 8 t (sl_rg HT.out HK2.out.lt (py_mem HT.out HK2.out).r0) (by omega)).mono ?_; rintro e w3 ⟨v3, rfl, hown⟩; have hb : Below w2.heap.size w2 w3 := hown.2; have hz := HB2.out.size; obtain ⟨A3, n3, c3, rfl, hp⟩ := own_pc2 (base' := w.heap.size) hown hz; have HP3 := Lib.hid (HP2.out.add hb hp); have HB3 := Lib.hid (below_then HB2.out hb); have HK3 := Lib.hid (HK2.out.later hb); have HZ3 := Lib.hid (HZ2.out.later hb); have HS3 := Lib.hid (HS2.out.later hb); clear hown hb hp hz)
  refine hK.out _ _ (HK3.out) (fun hHeld => ?_)
  clear hK K
  try simp only [Act.put, List.setIfInBounds_toArray, List.set_cons_zero, List.set_cons_succ, List.getElem_toArray, List.getElem_cons_zero, List.getElem_cons_succ]
  refine wpAnyH_ready (rs := [7]) (by kernel_rfl) (by simp) ?_
  refine AllReadyH.cons rfl (fun K hK => ?_) AllReadyH.nil
  go_simp
  (go_at_call 73; refine (scount_any _ N (by omega)).mono ?_; rintro e w4 ⟨v4, rfl, hown⟩; have hb : Below w3.heap.size w3 w4 := hown.2; have hz := HB3.out.size; obtain ⟨A4, n4, c4, rfl, hp⟩ := own_pc2 (base' := w.heap.size) hown hz; have HP4 := Lib.hid (HP3.out.add hb hp); have HB4 := Lib.hid (below_then HB3.out hb); have HK4 := Lib.hid (HK3.out.later hb); have HZ4 := Lib.hid (HZ3.out.later hb); have HS4 := Lib.hid (HS3.out.later hb); clear hown hb hp hz)
  refine hK.out _ _ (HK4.out) (fun hHeld => ?_)
  clear hK K
  try simp only [Act.put, List.setIfInBounds_toArray, List.set_cons_zero, List.set_cons_succ, List.getElem_toArray, List.getElem_cons_zero, List.getElem_cons_succ]
  refine wpAnyH_ready (rs := [8]) (by kernel_rfl) (by simp) ?_
  refine AllReadyH.cons rfl (fun K hK => ?_) AllReadyH.nil
  go_simp
  skip
  refine hK.out _ _ ((hHeld.later (below_new _ _))) (fun hHeld => ?_)
  clear hK K
  try simp only [Act.put, List.setIfInBounds_toArray, List.set_cons_zero, List.set_cons_succ, List.getElem_toArray, List.getElem_cons_zero, List.getElem_cons_succ]
  obtain ⟨g, hg⟩ : ∃ g, w4.heap.size = g := ⟨_, rfl⟩
  obtain ⟨w5, hw⟩ : ∃ w5, w4.alloc (.cells #[.slice A2 n2 c2, .slice A3 n3 c3, .slice A4 n4 c4] 56) = w5 := ⟨_, rfl⟩
  obtain ⟨ps, hps⟩ : ∃ ps : List Pc, [⟨A2, n2, c2, lstB (bytesOf ⟨#[112, 97, 121]⟩)⟩, ⟨A3, n3, c3, lstB t⟩, ⟨A4, n4, c4, numB N⟩] = ps := ⟨_, rfl⟩
  have hb : Below w4.heap.size w4 w5 := hw ▸ below_new w4 _
  have hbk : Bk w5 g 56 (ps.map Pc.v) := by rw [← hw, ← hg, ← hps]; exact Bk.new' w4 _ _ rfl
  have hgw : w.heap.size ≤ g := by rw [← hg]; exact HB4.out.size
  have hl3 : ps.length = 3 := by rw [← hps]; rfl
  have HO5 : Hid (w5.ownsRow g 56 1 (.slice (some ⟨g, 0, none⟩) 3 3) 3 (ps.map Pc.v)) := hbk.own (Nat.le_refl _) (Nat.le_refl _) (by omega) (by rw [List.length_map, hl3]) (by rw [List.take_of_length_le]; rw [List.length_map, hl3]; omega)
  have HK5 := Lib.hid (HK4.out.later hb); have HZ5 := Lib.hid (HZ4.out.later hb); have HB5 := Lib.hid (below_then HB4.out hb); have HS5 : Hid (Sl w5 g 1 A N (zs.map (.int .i64))) := by rw [← hg]; exact HS4.out.below hb
  have HGZ : Hid (w.heap.size + 1 < g) := by rw [← hg]; exact HZ4.out.lt
  have HGW := Lib.hid hgw
  have HG5 : Hid (g ≤ w5.heap.size) := by rw [← hg]; exact hb.size
  have HP5 : Hid (PcsOwn w5 w.heap.size ps) := by rw [← hps]; exact HP4.out.later hb
  have HC5 : Hid (catP ps = lstB txtPay ++ (lstB t ++ numB N)) := by show _ = _; rw [← hps]; simp [catP, txtPay_is]
  rw [hw] at hHeld ⊢
  rw [hg]
  clear hb hw hg hps hbk hgw
  refine wpAnyH_take (i := 9) (v := ?_) rfl (by kernel_rfl) (by kernel_rfl) (by kernel_rfl) (fun _ _ _ h => h) (Or.inl ⟨by rfl, ?_⟩) (by assumption) ?_
  rotate_left
  · intro w hSw
    (try dsimp only at hSw)
    go_simp
    try with_reducible rfl
  try simp only [Act.put, List.setIfInBounds_toArray, List.set_cons_zero, List.set_cons_succ, List.getElem_toArray, List.getElem_cons_zero, List.getElem_cons_succ]
  refine wpAnyH_done (by kernel_rfl) ?_ _
  clear hHeld
  have hk8 := (py_mem HT.out HK5.out).c8
  go_wp2_with fail
  go_loopw [3, 18] (fun sv iv wr => ∃ (k m : Nat) (qs : List Pc), k ≤ N ∧ iv = .int .i64 k ∧ Hid (m = k + 3) ∧ Hid (wr.ownsRow g 56 1 sv m (qs.map Pc.v)) ∧ Hid (PcsOwn wr w.heap.size qs) ∧ Hid (catP qs = lstB txtPay ++ (lstB t ++ (numB N ++ pyT (zs.take k)))) ∧ Hid (Below g w5 wr)) (fun _ iv _ => N - (intOf iv).toNat)
  case atStart => exact ⟨0, 3, ps, Nat.zero_le _, rfl, rfl, HO5.out, HP5.out, by show _ = _; rw [HC5.out]; simp [pyT], Below.refl _ _⟩
  case round =>
    obtain ⟨k, m, qs, hk, rfl, HM, HO, HP, HC, HB⟩ := hrel
    have hm3 : m ≤ 1000003 := by have := HM.out; omega
    by_cases hlt : k < N
    · obtain ⟨ad, z, rfl, hb, hz, hc⟩ := (HS5.out.below HB.out).at_ hlt
      have HZZ := Lib.hid hz
      have hzo := HPO.out z (List.mem_of_getElem? hz)
      have HZ0 : Hid (-9223372036854775808 ≤ z) := hzo.1
      have HZ1' : Hid (z < 9223372036854775808) := hzo.2
      have hki : (k : Int) < N := by omega
      clear hz hzo
      go_wp2_with fail
      refine (snumber_any _ z HZ0 HZ1').mono ?_
      rintro e w6 ⟨v6, rfl, hown⟩
      have hb6 : Below wr.heap.size wr w6 := hown.2
      obtain ⟨A6, n6, c6, rfl, hp6⟩ := own_pc2 (base' := w.heap.size) hown (Nat.le_trans HB5.out.size HB.out.size)
      have hg6 : g ≤ w6.heap.size := Nat.le_trans HG5.out (Nat.le_trans HB.out.size hb6.size)
      have HP6 := Lib.hid (HP.out.add hb6 hp6); have HB6 := Lib.hid (HB.out.trans (hb6.mono (Nat.le_trans HG5.out HB.out.size))); have HO6 := Lib.hid (own_keep HO.out hb6)
      clear hb6 hown hp6
      go_wp2_with (at_builtin; refine wpList_app _ rfl (.tmp 22) (.tmp 25) 37 rfl g 56 i0 (.slice none 0 0) 1 24 Try.underlying37 hi hi0 hi1 hi2 rfl (by decide) _ m _ rfl (HO6.out.alloc _) _ _ 1 1 [.slice A6 n6 c6] rfl (sl_new w6 #[.slice A6 n6 c6] 56 1 1 rfl (by omega)) (by simp [Value.oneCell']) (by unfold maxLen; omega) (by omega) (by simp; omega) ?_; intro v7 w7 hown7 hg7 hat7)
      have hba := HO6.out.alloc (.cells #[.slice A6 n6 c6] 56)
      have hbn : Below w6.heap.size w6 (w6.alloc (.cells #[.slice A6 n6 c6] 56)) := below_new w6 _
      have HP7 := Lib.hid ((HP6.out.later hbn).apart hba (by decide) hg7)
      have HB7 := Lib.hid (grown_below (HB6.out.alloc hg6 (.cells #[.slice A6 n6 c6] 56)) hba hg7 (Nat.le_refl _) (by simp; omega))
      have HO7 : Hid (w7.ownsRow g 56 1 v7 (m + 1) ((qs ++ [(⟨A6, n6, c6, numB (foldI z)⟩ : Pc)]).map Pc.v)) := by show World.ownsRow _ _ _ _ _ _ _; rw [List.map_append]; exact hown7
      clear hba hbn hown7 hg7 hat7
      go_roundw
      case rel =>
        refine ⟨k + 1, m + 1, _, by omega, by go_num, by have := HM.out; show _ = _; omega, HO7, HP7, ?_, HB7⟩
        show _ = _
        rw [catP_snoc, HC.out, pyT_take HZZ.out]
        simp only [List.append_assoc]
      case measure => simp [intOf]; omega
    · obtain rfl : k = N := by omega
      have hcat := HC.out
      rw [List.take_of_length_le (by rw [HPL.out]; omega), show lstB txtPay ++ (lstB t ++ (numB k ++ pyT zs)) = pyB t zs by rw [pyB, HPL.out]] at hcat
      obtain ⟨L, hL⟩ : ∃ L, pyB t zs = L := ⟨_, rfl⟩
      have HLO : Hid (ByOk L) := by show ByOk L; rw [← hL]; exact pyB_ok HT.out HPO.out (by rw [HPL.out]; omega)
      have HLE := Lib.hid hL
      have hln : (catP qs).length ≤ 4294967296 := by rw [hcat]; have := pyB_le (zs := zs) HT.out; have := HPL.out; omega
      obtain ⟨A9, c9, e9⟩ := own_form HO.out
      subst e9
      have hj := join_any wr A9 m c9 qs (Sl.of_own HO.out) HP.out.ok (by omega) hln
      rw [hcat, hL] at hj
      have HJ := Lib.hid hj
      have HZr := Lib.hid (HZ5.out.below HB.out HGZ.out)
      have HBr := Lib.hid (HB5.out.trans (HB.out.mono HGW.out))
      clear hj hL hln hcat
      go_wp2_with fail
      refine HJ.out.mono ?_
      rintro e wj ⟨vj, rfl, hown⟩
      have hb : Below wr.heap.size wr wj := hown.2
      obtain ⟨Aj, cj, rfl, hsl, hc, ha⟩ := own_facts hown
      have HSJ := Lib.hid hsl; have HCJ := Lib.hid hc; have HAJ := Lib.hid ha; have HBj := Lib.hid (below_then HBr.out hb); have HZj := Lib.hid (HZr.out.later hb)
      clear hown hb hsl hc ha
      go_wp2_with fail
      refine (hof_any wj Aj _ cj L HSJ.out HLO.out HCJ.out HAJ.out).mono ?_
      rintro e w8 ⟨rfl, hb⟩
      have HZ8 := Lib.hid (HZj.out.later hb); have HB8 := Lib.hid (below_then HBj.out hb)
      clear hb
      have HD := Lib.hid (hdg_size _ (ofI_ok L)); have HL : Hid ((dl zeroD).length = (dl (ofI L)).length) := by show _ = _; rw [dl_len, dl_len, (ofI_ok L).len]; rfl
      go_wp2_with (with_reducible refine stop_store 23 _ _ rfl ?_)
      refine StopD.go ?_
      refine wpList_store_part rfl 23 _ _ rfl (w.heap.size + 1) 0 (.agg (dl (ofI L)).toArray) (dl (ofI L)) rfl rfl rfl 23 [] (dl zeroD) [] HZ8.out rfl HL.out HD.out (dl_one' _) ?_
      intro w9 hp9
      have HK9 : Hid (Bk w9 (w.heap.size + 1) 23 (dl (ofI L))) := by show Bk _ _ _ _; have := hp9.bk; simpa using this
      have HB9 := Lib.hid (below_only HB8.out hp9.only HB8.out.size (Nat.le_succ _))
      clear hp9
      go_wp2_with fail
      refine bodyPost_ret (results_cell_bk rfl _ _ (w.heap.size + 1) 23 (dl (ofI L)) _ rfl HK9.out Try.underlying23 rfl HD.out) rfl ?_
      exact ⟨by rw [HLE.out], HB9.out⟩
end Go.Proofs.Ytbclfjdamklbpaa
