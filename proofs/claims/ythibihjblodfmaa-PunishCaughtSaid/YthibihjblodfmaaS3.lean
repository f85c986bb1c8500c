/- What is signed of a state, and of an act. -/
import Derived.Test.YthibihjblodfmaaS2
namespace Go.Proofs.Ythibihjblodfmaa
open Go.RowKit

theorem own_facts {w w' : World} {base : Nat} {bs : List Int} {v : Value} (h : OwnB base bs w v w') :
    ∃ A c, v = .slice A bs.length c ∧ Sl w' w'.heap.size 1 A bs.length (bs.map (.int .u8)) ∧ bs.length ≤ c ∧ ∀ ad, A = some ad → ad.block < w'.heap.size := by
  obtain ⟨A, c, rfl⟩ := h.form
  refine ⟨A, c, rfl, h.sl, ?_, ?_⟩
  · rcases own_bk h.1 with ⟨e, e2, _⟩ | ⟨g', cap, zs, e, _, _, hnc, _⟩
    · injection e with e1 e2 e3; omega
    · injection e with e1 e2 e3; omega
  · rintro ad rfl
    rcases own_bk h.1 with ⟨e, _, _⟩ | ⟨g', cap, zs, e, _, hbk, _⟩
    · injection e with e1; cases e1
    · injection e with e1; injection e1 with e1; subst e1; exact hbk.lt
theorem own_pc {w w' : World} {base : Nat} {bs : List Int} {v : Value} (h : OwnB base bs w v w') : ∃ A n c, v = .slice A n c ∧ PcsOk w' [⟨A, n, c, bs⟩] := by
  obtain ⟨A, c, hv, hs, _⟩ := own_facts h
  exact ⟨A, bs.length, c, hv, fun p hp => by rw [List.mem_singleton] at hp; subst hp; exact hs⟩
theorem PcsOk.nil (w : World) : PcsOk w [] := fun p hp => by simp at hp
theorem PcsOk.add {w w' : World} {ps : List Pc} {p : Pc} (h : PcsOk w ps) (hb : Below w.heap.size w w') (hp : PcsOk w' [p]) : PcsOk w' (ps ++ [p]) := fun q hq => by
  rcases List.mem_append.1 hq with hq | hq
  · exact h.later hb q hq
  · exact hp q hq
theorem byOk_app {xs ys : List Int} (h : ByOk xs) (h' : ByOk ys) : ByOk (xs ++ ys) := fun b hb => by
  rcases List.mem_append.1 hb with hb | hb
  · exact h b hb
  · exact h' b hb
theorem numB_ok {n : Nat} (h : n < 18446744073709551616) : ByOk (numB n) := num_ok 9 n (by show n < 1180591620717411303424; omega)
theorem lstB_ok {x : List Int} (h : ByOk x) (hl : x.length ≤ 4294967296) : ByOk (lstB x) := byOk_app (numB_ok (by omega)) h
theorem numB_le (n : Nat) : (numB n).length ≤ 10 := (numF_len 9 n).2

def txtState : List Int := [115, 116, 97, 116, 101]
def txtAct : List Int := [97, 99, 116]
def txtPay : List Int := [112, 97, 121]
def stB (t : List Int) (n : Int) (p : List Int) : List Int := lstB txtState ++ (lstB t ++ (numB (foldI n) ++ lstB p))
def acB (t : List Int) (n : Int) (a p : List Int) : List Int := lstB txtAct ++ (lstB t ++ (numB (foldI n) ++ (lstB a ++ lstB p)))
theorem txtState_is : bytesOf ⟨#[115, 116, 97, 116, 101]⟩ = txtState := by decide
theorem txtAct_is : bytesOf ⟨#[97, 99, 116]⟩ = txtAct := by decide
theorem txtPay_is : bytesOf ⟨#[112, 97, 121]⟩ = txtPay := by decide
theorem txt_ok : ByOk txtState ∧ ByOk txtAct ∧ ByOk txtPay := by
  refine ⟨fun b hb => ?_, fun b hb => ?_, fun b hb => ?_⟩ <;> simp [txtState, txtAct, txtPay] at hb <;> omega
theorem stB_ok {t p : List Int} {n : Int} (ht : DgOk t) (hp : ByOk p) (h0 : -9223372036854775808 ≤ n) (h1 : n < 9223372036854775808) (hl : p.length ≤ 4294967296) : ByOk (stB t n p) :=
  byOk_app (lstB_ok txt_ok.1 (by decide)) (byOk_app (lstB_ok ht.byt (by rw [ht.len]; omega)) (byOk_app (numB_ok (fold_lt h0 h1)) (lstB_ok hp hl)))
theorem acB_ok {t a p : List Int} {n : Int} (ht : DgOk t) (ha : DgOk a) (hp : ByOk p) (h0 : -9223372036854775808 ≤ n) (h1 : n < 9223372036854775808) (hl : p.length ≤ 4294967296) : ByOk (acB t n a p) :=
  byOk_app (lstB_ok txt_ok.2.1 (by decide)) (byOk_app (lstB_ok ht.byt (by rw [ht.len]; omega)) (byOk_app (numB_ok (fold_lt h0 h1)) (byOk_app (lstB_ok ha.byt (by rw [ha.len]; omega)) (lstB_ok hp hl))))
theorem stB_le {t p : List Int} {n : Int} (ht : DgOk t) : (stB t n p).length ≤ p.length + 60 := by
  have h1 := lstB_len txtState; have h2 := lstB_len t; have h3 := numB_le (foldI n); have h4 := lstB_len p; have h5 : txtState.length = 5 := rfl
  simp only [stB, List.length_append]; have := ht.len; omega
theorem acB_le {t a p : List Int} {n : Int} (ht : DgOk t) (ha : DgOk a) : (acB t n a p).length ≤ p.length + 80 := by
  have h1 := lstB_len txtAct; have h2 := lstB_len t; have h3 := numB_le (foldI n); have h4 := lstB_len p; have h5 : txtAct.length = 3 := rfl; have h6 := lstB_len a
  simp only [acB, List.length_append]; have := ht.len; have := ha.len; omega

/-- What a state's block holds; an act's. -/
structure StM (w : World) (g : Nat) (n : Int) (t : List Int) (p : Value) : Prop where
  c8 : w.cell? ⟨g, 8, none⟩ = some (.int .i64 n)
  c9 : w.cell? ⟨g, 9, none⟩ = some p
  r0 : w.rangeAt g 0 (dl t)
theorem st_mem {w : World} {g : Nat} {n : Int} {t : List Int} {p : Value} {ty : TypeId} (ht : DgOk t) (h : Bk w g ty (staC n t p)) : StM w g n t p := by
  have lt := ht.len
  have h1 : Bk w g ty (dl t ++ .int .i64 n :: [p]) := h
  have h2 : Bk w g ty ((dl t ++ [.int .i64 n]) ++ p :: []) := by have := h; simpa [staC] using this
  have h3 : Bk w g ty ([] ++ (dl t ++ [.int .i64 n, p])) := h
  exact ⟨h1.at1 (by simp [dl_len, lt]), h2.at1 (by simp [dl_len, lt]), h3.range rfl⟩
structure AcM (w : World) (g : Nat) (n : Int) (t a : List Int) (p : Value) : Prop where
  c8 : w.cell? ⟨g, 8, none⟩ = some (.int .i64 n)
  c17 : w.cell? ⟨g, 17, none⟩ = some p
  r0 : w.rangeAt g 0 (dl t)
  r9 : w.rangeAt g 9 (dl a)
theorem ac_mem {w : World} {g : Nat} {n : Int} {t a : List Int} {p : Value} {ty : TypeId} (ht : DgOk t) (ha : DgOk a) (h : Bk w g ty (actC n t a p)) : AcM w g n t a p := by
  have lt := ht.len; have la := ha.len
  have h1 : Bk w g ty (dl t ++ .int .i64 n :: (dl a ++ [p])) := h
  have h2 : Bk w g ty ((dl t ++ .int .i64 n :: dl a) ++ p :: []) := by have := h; simpa [actC] using this
  have h3 : Bk w g ty ([] ++ (dl t ++ (.int .i64 n :: (dl a ++ [p])))) := h
  have h4 : Bk w g ty ((dl t ++ [.int .i64 n]) ++ (dl a ++ [p])) := by have := h; simpa [actC] using this
  exact ⟨h1.at1 (by simp [dl_len, lt]), h2.at1 (by simp [dl_len, lt, la]), h3.range rfl, h4.range (by simp [dl_len, lt])⟩
/-- A digest within a block, as a slice of bytes. -/
theorem sl_rg {w : World} {g o : Nat} {t : List Int} (ht : DgOk t) (hg : g < w.heap.size) (h : w.rangeAt g o (dl t)) : Sl w w.heap.size 1 (some ⟨g, o, none⟩) 8 (t.map (.int .u8)) :=
  ⟨by rw [List.length_map, ht.len], by omega, fun _ => ⟨_, rfl, hg, fun j u hu => by rw [add_plain]; exact h j u hu⟩⟩

set_option maxRecDepth 20000 in
set_option maxHeartbeats 2000000 in
theorem sdigest_any (w : World) (n : Int) (t : List Int) (ht : DgOk t) (A : Option Addr) (N C : Nat) (pos : List Int) (hs : Sl w w.heap.size 1 A N (pos.map (.int .u8))) (hpo : ByOk pos) (hN : N ≤ 1073741824)
    (hn0 : Hid (-9223372036854775808 ≤ n)) (hn1 : Hid (n < 9223372036854775808)) :
    Calls Try.prog 46 #[.agg (staC n t (.slice A N C)).toArray] w fun e w' => e = .returned (.agg (dl (ofI (stB t n pos))).toArray) ∧ Below w.heap.size w w' := by
  obtain ⟨X, hX⟩ : ∃ X, (staC n t (.slice A N C)).toArray = X := ⟨_, rfl⟩
  obtain ⟨w1, hw1⟩ : ∃ w1, (w.alloc (.cells X 31)).alloc (.cells #[.int .u8 0, .int .u8 0, .int .u8 0, .int .u8 0, .int .u8 0, .int .u8 0, .int .u8 0, .int .u8 0] 29) = w1 := ⟨_, rfl⟩
  have hb1 : Below w.heap.size w w1 := hw1 ▸ (below_new w _).alloc (by simp) _
  have kx : Bk w1 w.heap.size 31 (staC n t (.slice A N C)) := hw1 ▸ (Bk.new' w _ X (by rw [← hX])).alloc _
  have kz : Bk w1 (w.heap.size + 1) 29 ([] ++ (dl zeroD ++ [])) := hw1 ▸ Bk.at_ _ _ _ (by simp) rfl
  have HW := Lib.hid hw1; have HB1 := Lib.hid hb1; have HK1 := Lib.hid kx; have HZ1 := Lib.hid kz; have HS1 := Lib.hid (hs.later hb1); have HT := Lib.hid ht; have HPO := Lib.hid hpo
  have HP1 := Lib.hid (PcsOk.nil w1)
  have HPL := Lib.hid hs.length
  rw [hX]
  clear hX hw1 hb1 kx kz hs hpo ht
  go_enter Try.func46, Try.ntmps46
  go_upto_region 1 with fail
  rw [HW.out]
  go_wp2_with fail
  refine wp_region_held_drew (S := fun w' => Bk w' w.heap.size 31 (staC n t (.slice A N C))) (by kernel_rfl) (Bk.drew HK1.out) (fun hHeld => ?_)
  refine wpAnyH_take (i := 1) (v := ?_) rfl (by kernel_rfl) (by kernel_rfl) (by kernel_rfl) (fun _ _ _ h => h) (Or.inl ⟨by rfl, ?_⟩) (by assumption) ?_
  rotate_left
  · intro w hSw
    (try dsimp only at hSw)
    go_simp
    try with_reducible rfl
  try simp only [Act.put, List.setIfInBounds_toArray, List.set_cons_zero, List.set_cons_succ, List.getElem_toArray, List.getElem_cons_zero, List.getElem_cons_succ]
  refine wpAnyH_take (i := 2) (v := ?_) rfl (by kernel_rfl) (by kernel_rfl) (by kernel_rfl) (fun _ _ _ h => h) (Or.inl ⟨by rfl, ?_⟩) (by assumption) ?_
  rotate_left
  · intro w hSw
    (try dsimp only at hSw)
    go_simp
    try with_reducible rfl
  try simp only [Act.put, List.setIfInBounds_toArray, List.set_cons_zero, List.set_cons_succ, List.getElem_toArray, List.getElem_cons_zero, List.getElem_cons_succ]
  refine wpAnyH_take (i := 4) (v := ?_) rfl (by kernel_rfl) (by kernel_rfl) (by kernel_rfl) (fun _ _ _ h => h) (Or.inl ⟨by rfl, ?_⟩) (by assumption) ?_
  rotate_left
  · intro w hSw
    (try dsimp only at hSw)
    go_simp
    try with_reducible rfl
  try simp only [Act.put, List.setIfInBounds_toArray, List.set_cons_zero, List.set_cons_succ, List.getElem_toArray, List.getElem_cons_zero, List.getElem_cons_succ]
  refine wpAnyH_take (i := 5) (v := ?_) rfl (by kernel_rfl) (by kernel_rfl) (by kernel_rfl) (fun _ _ _ h => h) (Or.inl ⟨by rfl, ?_⟩) (by assumption) ?_
  rotate_left
  · intro w hSw
    have hcell := (st_mem HT.out hSw).c8
    clear hSw
    go_simp
    try with_reducible rfl
  try simp only [Act.put, List.setIfInBounds_toArray, List.set_cons_zero, List.set_cons_succ, List.getElem_toArray, List.getElem_cons_zero, List.getElem_cons_succ]
  refine wpAnyH_take (i := 7) (v := ?_) rfl (by kernel_rfl) (by kernel_rfl) (by kernel_rfl) (fun _ _ _ h => h) (Or.inl ⟨by rfl, ?_⟩) (by assumption) ?_
  rotate_left
  · intro w hSw
    (try dsimp only at hSw)
    go_simp
    try with_reducible rfl
  try simp only [Act.put, List.setIfInBounds_toArray, List.set_cons_zero, List.set_cons_succ, List.getElem_toArray, List.getElem_cons_zero, List.getElem_cons_succ]
  refine wpAnyH_take (i := 8) (v := ?_) rfl (by kernel_rfl) (by kernel_rfl) (by kernel_rfl) (fun _ _ _ h => h) (Or.inl ⟨by rfl, ?_⟩) (by assumption) ?_
  rotate_left
  · intro w hSw
    have hcell := (st_mem HT.out hSw).c9
    clear hSw
    go_simp
    try with_reducible rfl
  try simp only [Act.put, List.setIfInBounds_toArray, List.set_cons_zero, List.set_cons_succ, List.getElem_toArray, List.getElem_cons_zero, List.getElem_cons_succ]
  refine wpAnyH_ready (rs := [0]) (by kernel_rfl) (by simp) ?_
  refine AllReadyH.cons rfl (fun K hK => ?_) AllReadyH.nil
  go_simp
  (go_at_call 93; refine (stext_any _ _ (by decide)).mono ?_; rintro e w2 ⟨v2, rfl, hown⟩; have hb : Below w1.heap.size w1 w2 := (below_draws w1 _ 1).trans hown.2; obtain ⟨A2, n2, c2, rfl, hp⟩ := own_pc hown; have HP2 := Lib.hid (HP1.out.add hb hp); have HB2 := Lib.hid (below_then HB1.out hb); have HK2 := Lib.hid (HK1.out.later hb); have HZ2 := Lib.hid (HZ1.out.later hb); have HS2 := Lib.hid (HS1.out.later hb); clear hown hb hp)
  refine hK.out _ _ (HK2.out) (fun hHeld => ?_)
  clear hK K
  try simp only [Act.put, List.setIfInBounds_toArray, List.set_cons_zero, List.set_cons_succ, List.getElem_toArray, List.getElem_cons_zero, List.getElem_cons_succ]
  refine wpAnyH_ready (rs := [3]) (by kernel_rfl) (by simp) ?_
  refine AllReadyH.cons rfl (fun K hK => ?_) AllReadyH.nil
  go_simp
  (go_at_call 94; refine (slist_any _ (some ⟨w.heap.size, 0, none⟩) 8 8 t (sl_rg HT.out HK2.out.lt (st_mem HT.out HK2.out).r0) (by omega)).mono ?_; rintro e w3 ⟨v3, rfl, hown⟩; have hb : Below w2.heap.size w2 w3 := hown.2; obtain ⟨A3, n3, c3, rfl, hp⟩ := own_pc hown; have HP3 := Lib.hid (HP2.out.add hb hp); have HB3 := Lib.hid (below_then HB2.out hb); have HK3 := Lib.hid (HK2.out.later hb); have HZ3 := Lib.hid (HZ2.out.later hb); have HS3 := Lib.hid (HS2.out.later hb); clear hown hb hp)
  refine hK.out _ _ (HK3.out) (fun hHeld => ?_)
  clear hK K
  try simp only [Act.put, List.setIfInBounds_toArray, List.set_cons_zero, List.set_cons_succ, List.getElem_toArray, List.getElem_cons_zero, List.getElem_cons_succ]
  refine wpAnyH_ready (rs := [6]) (by kernel_rfl) (by simp) ?_
  refine AllReadyH.cons rfl (fun K hK => ?_) AllReadyH.nil
  go_simp
  (go_at_call 95; refine (snumber_any _ n hn0 hn1).mono ?_; rintro e w4 ⟨v4, rfl, hown⟩; have hb : Below w3.heap.size w3 w4 := hown.2; obtain ⟨A4, n4, c4, rfl, hp⟩ := own_pc hown; have HP4 := Lib.hid (HP3.out.add hb hp); have HB4 := Lib.hid (below_then HB3.out hb); have HK4 := Lib.hid (HK3.out.later hb); have HZ4 := Lib.hid (HZ3.out.later hb); have HS4 := Lib.hid (HS3.out.later hb); clear hown hb hp)
  refine hK.out _ _ (HK4.out) (fun hHeld => ?_)
  clear hK K
  try simp only [Act.put, List.setIfInBounds_toArray, List.set_cons_zero, List.set_cons_succ, List.getElem_toArray, List.getElem_cons_zero, List.getElem_cons_succ]
  refine wpAnyH_ready (rs := [9]) (by kernel_rfl) (by simp) ?_
  refine AllReadyH.cons rfl (fun K hK => ?_) AllReadyH.nil
  go_simp
  (go_at_call 94; refine (slist_any _ A N C pos HS4.out hN).mono ?_; rintro e w5 ⟨v5, rfl, hown⟩; have hb : Below w4.heap.size w4 w5 := hown.2; obtain ⟨A5, n5, c5, rfl, hp⟩ := own_pc hown; have HP5 := Lib.hid (HP4.out.add hb hp); have HB5 := Lib.hid (below_then HB4.out hb); have HK5 := Lib.hid (HK4.out.later hb); have HZ5 := Lib.hid (HZ4.out.later hb); have HS5 := Lib.hid (HS4.out.later hb); clear hown hb hp)
  refine hK.out _ _ (HK5.out) (fun hHeld => ?_)
  clear hK K
  try simp only [Act.put, List.setIfInBounds_toArray, List.set_cons_zero, List.set_cons_succ, List.getElem_toArray, List.getElem_cons_zero, List.getElem_cons_succ]
  refine wpAnyH_ready (rs := [10]) (by kernel_rfl) (by simp) ?_
  refine AllReadyH.cons rfl (fun K hK => ?_) AllReadyH.nil
  go_simp
  skip
  refine hK.out _ _ ((hHeld.later (below_new _ _))) (fun hHeld => ?_)
  clear hK K
  try simp only [Act.put, List.setIfInBounds_toArray, List.set_cons_zero, List.set_cons_succ, List.getElem_toArray, List.getElem_cons_zero, List.getElem_cons_succ]
  obtain ⟨g, hg⟩ : ∃ g, w5.heap.size = g := ⟨_, rfl⟩
  obtain ⟨w6, hw⟩ : ∃ w6, w5.alloc (.cells #[.slice A2 n2 c2, .slice A3 n3 c3, .slice A4 n4 c4, .slice A5 n5 c5] 23) = w6 := ⟨_, rfl⟩
  obtain ⟨ps, hps⟩ : ∃ ps : List Pc, [⟨A2, n2, c2, lstB (bytesOf ⟨#[115, 116, 97, 116, 101]⟩)⟩, ⟨A3, n3, c3, lstB t⟩, ⟨A4, n4, c4, numB (foldI n)⟩, ⟨A5, n5, c5, lstB pos⟩] = ps := ⟨_, rfl⟩
  have hb : Below w5.heap.size w5 w6 := hw ▸ below_new w5 _
  have hsn : Sl w6 w6.heap.size 1 (some ⟨g, 0, none⟩) 4 (ps.map Pc.v) := by rw [← hw, ← hg, ← hps]; exact sl_new w5 #[.slice A2 n2 c2, .slice A3 n3 c3, .slice A4 n4 c4, .slice A5 n5 c5] 23 1 4 rfl (by omega)
  have HK6 := Lib.hid (HK5.out.later hb); have HZ6 := Lib.hid (HZ5.out.later hb); have HB6 := Lib.hid (below_then HB5.out hb); have HS6 := Lib.hid (HS5.out.later hb)
  have hm : PcsOk w6 ps := by rw [← hps]; exact HP5.out.later hb
  have hcl : catP ps = stB t n pos := by rw [← hps]; simp [catP, stB, txtState_is]
  have hln : (catP ps).length ≤ 4294967296 := by rw [hcl]; have := stB_le (n := n) (p := pos) HT.out; have := HPL.out; omega
  have hj := join_any w6 (some ⟨g, 0, none⟩) 4 4 ps hsn hm (by omega) hln
  obtain ⟨L, hL⟩ : ∃ L, stB t n pos = L := ⟨_, rfl⟩
  rw [hcl, hL] at hj
  have HJ := Lib.hid hj
  have HLO : Hid (ByOk L) := by show ByOk L; rw [← hL]; exact stB_ok HT.out HPO.out hn0.out hn1.out (by rw [HPL.out]; omega)
  have HLE := Lib.hid hL
  rw [hw] at hHeld ⊢
  rw [hg]
  clear hb hsn hw hg hj hL hcl hln hm hps
  refine wpAnyH_ready (rs := [11]) (by kernel_rfl) (by simp) ?_
  refine AllReadyH.cons rfl (fun K hK => ?_) AllReadyH.nil
  go_simp
  (go_at_call 92; refine (HJ.out).mono ?_; rintro e wj ⟨vj, rfl, hown⟩; have hb : Below w6.heap.size w6 wj := hown.2; obtain ⟨Aj, cj, rfl, hsl, hc, ha⟩ := own_facts hown; have HSJ := Lib.hid hsl; have HCJ := Lib.hid hc; have HAJ := Lib.hid ha; have HBj := Lib.hid (below_then HB6.out hb); have HKj := Lib.hid (HK6.out.later hb); have HZj := Lib.hid (HZ6.out.later hb); clear hown hb hsl hc ha)
  refine hK.out _ _ (HKj.out) (fun hHeld => ?_)
  clear hK K
  try simp only [Act.put, List.setIfInBounds_toArray, List.set_cons_zero, List.set_cons_succ, List.getElem_toArray, List.getElem_cons_zero, List.getElem_cons_succ]
  refine wpAnyH_ready (rs := [12]) (by kernel_rfl) (by simp) ?_
  refine AllReadyH.cons rfl (fun K hK => ?_) AllReadyH.nil
  go_simp
  (go_at_call 91; refine (hof_any wj Aj _ cj L HSJ.out HLO.out HCJ.out HAJ.out).mono ?_; rintro e w8 ⟨rfl, hb⟩; have HK8 := Lib.hid (HKj.out.later hb); have HZ8 := Lib.hid (HZj.out.later hb); have HB8 := Lib.hid (below_then HBj.out hb); clear hb)
  refine hK.out _ _ (HK8.out) (fun hHeld => ?_)
  clear hK K
  try simp only [Act.put, List.setIfInBounds_toArray, List.set_cons_zero, List.set_cons_succ, List.getElem_toArray, List.getElem_cons_zero, List.getElem_cons_succ]
  refine wpAnyH_ready (rs := [13]) (by kernel_rfl) (by simp) ?_
  refine AllReadyH.cons rfl (fun K hK => ?_) AllReadyH.nil
  rw [if_pos (by rfl)]
  refine wp_store_part _ _ _ rfl (w.heap.size + 1) 0 _ (dl (ofI L)) rfl rfl rfl _ ([]) (dl zeroD) ([]) HZ8.out rfl (by rw [dl_len, dl_len, (ofI_ok L).len]; rfl) (hdg_size _ (ofI_ok L)) (dl_one' _) ?_
  intro w9 hp9
  refine hK.out _ _ (hHeld.grown hp9.only (by intro h; injection h with h; omega)) (fun hHeld => ?_)
  clear hK K
  try simp only [Act.put, List.getElem_toArray, List.getElem_cons_zero, List.getElem_cons_succ]
  refine wpAnyH_done (by kernel_rfl) ?_ _
  have HK9 : Hid (Bk w9 (w.heap.size + 1) 29 (dl (ofI L))) := by show Bk _ _ _ _; have := hp9.bk; simpa using this
  have HB9 := Lib.hid (below_only HB8.out hp9.only HB8.out.size (Nat.le_succ _))
  have HD := Lib.hid (hdg_size _ (ofI_ok L))
  clear hHeld hp9
  go_wp2_with fail
  refine bodyPost_ret (results_cell_bk rfl _ _ (w.heap.size + 1) 29 (dl (ofI L)) _ rfl HK9.out Try.underlying29 rfl HD.out) rfl ?_
  exact ⟨by rw [HLE.out], HB9.out⟩

set_option maxRecDepth 20000 in
set_option maxHeartbeats 2000000 in
theorem adigest_any (w : World) (n : Int) (t a : List Int) (ht : DgOk t) (ha : DgOk a) (A : Option Addr) (N C : Nat) (pos : List Int) (hs : Sl w w.heap.size 1 A N (pos.map (.int .u8))) (hpo : ByOk pos) (hN : N ≤ 1073741824)
    (hn0 : Hid (-9223372036854775808 ≤ n)) (hn1 : Hid (n < 9223372036854775808)) :
    Calls Try.prog 50 #[.agg (actC n t a (.slice A N C)).toArray] w fun e w' => e = .returned (.agg (dl (ofI (acB t n a pos))).toArray) ∧ Below w.heap.size w w' := by
  obtain ⟨X, hX⟩ : ∃ X, (actC n t a (.slice A N C)).toArray = X := ⟨_, rfl⟩
  obtain ⟨w1, hw1⟩ : ∃ w1, (w.alloc (.cells X 33)).alloc (.cells #[.int .u8 0, .int .u8 0, .int .u8 0, .int .u8 0, .int .u8 0, .int .u8 0, .int .u8 0, .int .u8 0] 29) = w1 := ⟨_, rfl⟩
  have hb1 : Below w.heap.size w w1 := hw1 ▸ (below_new w _).alloc (by simp) _
  have kx : Bk w1 w.heap.size 33 (actC n t a (.slice A N C)) := hw1 ▸ (Bk.new' w _ X (by rw [← hX])).alloc _
  have kz : Bk w1 (w.heap.size + 1) 29 ([] ++ (dl zeroD ++ [])) := hw1 ▸ Bk.at_ _ _ _ (by simp) rfl
  have HW := Lib.hid hw1; have HB1 := Lib.hid hb1; have HK1 := Lib.hid kx; have HZ1 := Lib.hid kz; have HS1 := Lib.hid (hs.later hb1); have HT := Lib.hid ht; have HTA := Lib.hid ha; have HPO := Lib.hid hpo
  have HP1 := Lib.hid (PcsOk.nil w1)
  have HPL := Lib.hid hs.length
  rw [hX]
  clear hX hw1 hb1 kx kz hs hpo ht ha
  go_enter Try.func50, Try.ntmps50
  go_upto_region 1 with fail
  rw [HW.out]
  go_wp2_with fail
  refine wp_region_held_drew (S := fun w' => Bk w' w.heap.size 33 (actC n t a (.slice A N C))) (by kernel_rfl) (Bk.drew HK1.out) (fun hHeld => ?_)
  refine wpAnyH_take (i := 1) (v := ?_) rfl (by kernel_rfl) (by kernel_rfl) (by kernel_rfl) (fun _ _ _ h => h) (Or.inl ⟨by rfl, ?_⟩) (by assumption) ?_
  rotate_left
  · intro w hSw
    (try dsimp only at hSw)
    go_simp
    try with_reducible rfl
  try simp only [Act.put, List.setIfInBounds_toArray, List.set_cons_zero, List.set_cons_succ, List.getElem_toArray, List.getElem_cons_zero, List.getElem_cons_succ]
  refine wpAnyH_take (i := 2) (v := ?_) rfl (by kernel_rfl) (by kernel_rfl) (by kernel_rfl) (fun _ _ _ h => h) (Or.inl ⟨by rfl, ?_⟩) (by assumption) ?_
  rotate_left
  · intro w hSw
    (try dsimp only at hSw)
    go_simp
    try with_reducible rfl
  try simp only [Act.put, List.setIfInBounds_toArray, List.set_cons_zero, List.set_cons_succ, List.getElem_toArray, List.getElem_cons_zero, List.getElem_cons_succ]
  refine wpAnyH_take (i := 4) (v := ?_) rfl (by kernel_rfl) (by kernel_rfl) (by kernel_rfl) (fun _ _ _ h => h) (Or.inl ⟨by rfl, ?_⟩) (by assumption) ?_
  rotate_left
  · intro w hSw
    (try dsimp only at hSw)
    go_simp
    try with_reducible rfl
  try simp only [Act.put, List.setIfInBounds_toArray, List.set_cons_zero, List.set_cons_succ, List.getElem_toArray, List.getElem_cons_zero, List.getElem_cons_succ]
  refine wpAnyH_take (i := 5) (v := ?_) rfl (by kernel_rfl) (by kernel_rfl) (by kernel_rfl) (fun _ _ _ h => h) (Or.inl ⟨by rfl, ?_⟩) (by assumption) ?_
  rotate_left
  · intro w hSw
    have hcell := (ac_mem HT.out HTA.out hSw).c8
    clear hSw
    go_simp
    try with_reducible rfl
  try simp only [Act.put, List.setIfInBounds_toArray, List.set_cons_zero, List.set_cons_succ, List.getElem_toArray, List.getElem_cons_zero, List.getElem_cons_succ]
  refine wpAnyH_take (i := 7) (v := ?_) rfl (by kernel_rfl) (by kernel_rfl) (by kernel_rfl) (fun _ _ _ h => h) (Or.inl ⟨by rfl, ?_⟩) (by assumption) ?_
  rotate_left
  · intro w hSw
    (try dsimp only at hSw)
    go_simp
    try with_reducible rfl
  try simp only [Act.put, List.setIfInBounds_toArray, List.set_cons_zero, List.set_cons_succ, List.getElem_toArray, List.getElem_cons_zero, List.getElem_cons_succ]
  refine wpAnyH_take (i := 8) (v := ?_) rfl (by kernel_rfl) (by kernel_rfl) (by kernel_rfl) (fun _ _ _ h => h) (Or.inl ⟨by rfl, ?_⟩) (by assumption) ?_
  rotate_left
  · intro w hSw
    (try dsimp only at hSw)
    go_simp
    try with_reducible rfl
  try simp only [Act.put, List.setIfInBounds_toArray, List.set_cons_zero, List.set_cons_succ, List.getElem_toArray, List.getElem_cons_zero, List.getElem_cons_succ]
  refine wpAnyH_take (i := 10) (v := ?_) rfl (by kernel_rfl) (by kernel_rfl) (by kernel_rfl) (fun _ _ _ h => h) (Or.inl ⟨by rfl, ?_⟩) (by assumption) ?_
  rotate_left
  · intro w hSw
    (try dsimp only at hSw)
    go_simp
    try with_reducible rfl
  try simp only [Act.put, List.setIfInBounds_toArray, List.set_cons_zero, List.set_cons_succ, List.getElem_toArray, List.getElem_cons_zero, List.getElem_cons_succ]
  refine wpAnyH_take (i := 11) (v := ?_) rfl (by kernel_rfl) (by kernel_rfl) (by kernel_rfl) (fun _ _ _ h => h) (Or.inl ⟨by rfl, ?_⟩) (by assumption) ?_
  rotate_left
  · intro w hSw
    have hcell := (ac_mem HT.out HTA.out hSw).c17
    clear hSw
    go_simp
    try with_reducible rfl
  try simp only [Act.put, List.setIfInBounds_toArray, List.set_cons_zero, List.set_cons_succ, List.getElem_toArray, List.getElem_cons_zero, List.getElem_cons_succ]
  refine wpAnyH_ready (rs := [0]) (by kernel_rfl) (by simp) ?_
  refine AllReadyH.cons rfl (fun K hK => ?_) AllReadyH.nil
  go_simp
  (go_at_call 93; refine (stext_any _ _ (by decide)).mono ?_; rintro e w2 ⟨v2, rfl, hown⟩; have hb : Below w1.heap.size w1 w2 := (below_draws w1 _ 1).trans hown.2; obtain ⟨A2, n2, c2, rfl, hp⟩ := own_pc hown; have HP2 := Lib.hid (HP1.out.add hb hp); have HB2 := Lib.hid (below_then HB1.out hb); have HK2 := Lib.hid (HK1.out.later hb); have HZ2 := Lib.hid (HZ1.out.later hb); have HS2 := Lib.hid (HS1.out.later hb); clear hown hb hp)
  refine hK.out _ _ (HK2.out) (fun hHeld => ?_)
  clear hK K
  try simp only [Act.put, List.setIfInBounds_toArray, List.set_cons_zero, List.set_cons_succ, List.getElem_toArray, List.getElem_cons_zero, List.getElem_cons_succ]
  refine wpAnyH_ready (rs := [3]) (by kernel_rfl) (by simp) ?_
  refine AllReadyH.cons rfl (fun K hK => ?_) AllReadyH.nil
  go_simp
  (go_at_call 94; refine (slist_any _ (some ⟨w.heap.size, 0, none⟩) 8 8 t (sl_rg HT.out HK2.out.lt (ac_mem HT.out HTA.out HK2.out).r0) (by omega)).mono ?_; rintro e w3 ⟨v3, rfl, hown⟩; have hb : Below w2.heap.size w2 w3 := hown.2; obtain ⟨A3, n3, c3, rfl, hp⟩ := own_pc hown; have HP3 := Lib.hid (HP2.out.add hb hp); have HB3 := Lib.hid (below_then HB2.out hb); have HK3 := Lib.hid (HK2.out.later hb); have HZ3 := Lib.hid (HZ2.out.later hb); have HS3 := Lib.hid (HS2.out.later hb); clear hown hb hp)
  refine hK.out _ _ (HK3.out) (fun hHeld => ?_)
  clear hK K
  try simp only [Act.put, List.setIfInBounds_toArray, List.set_cons_zero, List.set_cons_succ, List.getElem_toArray, List.getElem_cons_zero, List.getElem_cons_succ]
  refine wpAnyH_ready (rs := [6]) (by kernel_rfl) (by simp) ?_
  refine AllReadyH.cons rfl (fun K hK => ?_) AllReadyH.nil
  go_simp
  (go_at_call 95; refine (snumber_any _ n hn0 hn1).mono ?_; rintro e w4 ⟨v4, rfl, hown⟩; have hb : Below w3.heap.size w3 w4 := hown.2; obtain ⟨A4, n4, c4, rfl, hp⟩ := own_pc hown; have HP4 := Lib.hid (HP3.out.add hb hp); have HB4 := Lib.hid (below_then HB3.out hb); have HK4 := Lib.hid (HK3.out.later hb); have HZ4 := Lib.hid (HZ3.out.later hb); have HS4 := Lib.hid (HS3.out.later hb); clear hown hb hp)
  refine hK.out _ _ (HK4.out) (fun hHeld => ?_)
  clear hK K
  try simp only [Act.put, List.setIfInBounds_toArray, List.set_cons_zero, List.set_cons_succ, List.getElem_toArray, List.getElem_cons_zero, List.getElem_cons_succ]
  refine wpAnyH_ready (rs := [9]) (by kernel_rfl) (by simp) ?_
  refine AllReadyH.cons rfl (fun K hK => ?_) AllReadyH.nil
  go_simp
  (go_at_call 94; refine (slist_any _ (some ⟨w.heap.size, 9, none⟩) 8 8 a (sl_rg HTA.out HK4.out.lt (ac_mem HT.out HTA.out HK4.out).r9) (by omega)).mono ?_; rintro e w5 ⟨v5, rfl, hown⟩; have hb : Below w4.heap.size w4 w5 := hown.2; obtain ⟨A5, n5, c5, rfl, hp⟩ := own_pc hown; have HP5 := Lib.hid (HP4.out.add hb hp); have HB5 := Lib.hid (below_then HB4.out hb); have HK5 := Lib.hid (HK4.out.later hb); have HZ5 := Lib.hid (HZ4.out.later hb); have HS5 := Lib.hid (HS4.out.later hb); clear hown hb hp)
  refine hK.out _ _ (HK5.out) (fun hHeld => ?_)
  clear hK K
  try simp only [Act.put, List.setIfInBounds_toArray, List.set_cons_zero, List.set_cons_succ, List.getElem_toArray, List.getElem_cons_zero, List.getElem_cons_succ]
  refine wpAnyH_ready (rs := [12]) (by kernel_rfl) (by simp) ?_
  refine AllReadyH.cons rfl (fun K hK => ?_) AllReadyH.nil
  go_simp
  (go_at_call 94; refine (slist_any _ A N C pos HS5.out hN).mono ?_; rintro e w51 ⟨v51, rfl, hown⟩; have hb : Below w5.heap.size w5 w51 := hown.2; obtain ⟨A51, n51, c51, rfl, hp⟩ := own_pc hown; have HP51 := Lib.hid (HP5.out.add hb hp); have HB51 := Lib.hid (below_then HB5.out hb); have HK51 := Lib.hid (HK5.out.later hb); have HZ51 := Lib.hid (HZ5.out.later hb); have HS51 := Lib.hid (HS5.out.later hb); clear hown hb hp)
  refine hK.out _ _ (HK51.out) (fun hHeld => ?_)
  clear hK K
  try simp only [Act.put, List.setIfInBounds_toArray, List.set_cons_zero, List.set_cons_succ, List.getElem_toArray, List.getElem_cons_zero, List.getElem_cons_succ]
  refine wpAnyH_ready (rs := [13]) (by kernel_rfl) (by simp) ?_
  refine AllReadyH.cons rfl (fun K hK => ?_) AllReadyH.nil
  go_simp
  skip
  refine hK.out _ _ ((hHeld.later (below_new _ _))) (fun hHeld => ?_)
  clear hK K
  try simp only [Act.put, List.setIfInBounds_toArray, List.set_cons_zero, List.set_cons_succ, List.getElem_toArray, List.getElem_cons_zero, List.getElem_cons_succ]
  obtain ⟨g, hg⟩ : ∃ g, w51.heap.size = g := ⟨_, rfl⟩
  obtain ⟨w6, hw⟩ : ∃ w6, w51.alloc (.cells #[.slice A2 n2 c2, .slice A3 n3 c3, .slice A4 n4 c4, .slice A5 n5 c5, .slice A51 n51 c51] 23) = w6 := ⟨_, rfl⟩
  obtain ⟨ps, hps⟩ : ∃ ps : List Pc, [⟨A2, n2, c2, lstB (bytesOf ⟨#[97, 99, 116]⟩)⟩, ⟨A3, n3, c3, lstB t⟩, ⟨A4, n4, c4, numB (foldI n)⟩, ⟨A5, n5, c5, lstB a⟩, ⟨A51, n51, c51, lstB pos⟩] = ps := ⟨_, rfl⟩
  have hb : Below w51.heap.size w51 w6 := hw ▸ below_new w51 _
  have hsn : Sl w6 w6.heap.size 1 (some ⟨g, 0, none⟩) 5 (ps.map Pc.v) := by rw [← hw, ← hg, ← hps]; exact sl_new w51 #[.slice A2 n2 c2, .slice A3 n3 c3, .slice A4 n4 c4, .slice A5 n5 c5, .slice A51 n51 c51] 23 1 5 rfl (by omega)
  have HK6 := Lib.hid (HK51.out.later hb); have HZ6 := Lib.hid (HZ51.out.later hb); have HB6 := Lib.hid (below_then HB51.out hb); have HS6 := Lib.hid (HS51.out.later hb)
  have hm : PcsOk w6 ps := by rw [← hps]; exact HP51.out.later hb
  have hcl : catP ps = acB t n a pos := by rw [← hps]; simp [catP, acB, txtAct_is]
  have hln : (catP ps).length ≤ 4294967296 := by rw [hcl]; have := acB_le (n := n) (p := pos) HT.out HTA.out; have := HPL.out; omega
  have hj := join_any w6 (some ⟨g, 0, none⟩) 5 5 ps hsn hm (by omega) hln
  obtain ⟨L, hL⟩ : ∃ L, acB t n a pos = L := ⟨_, rfl⟩
  rw [hcl, hL] at hj
  have HJ := Lib.hid hj
  have HLO : Hid (ByOk L) := by show ByOk L; rw [← hL]; exact acB_ok HT.out HTA.out HPO.out hn0.out hn1.out (by rw [HPL.out]; omega)
  have HLE := Lib.hid hL
  rw [hw] at hHeld ⊢
  rw [hg]
  clear hb hsn hw hg hj hL hcl hln hm hps
  refine wpAnyH_ready (rs := [14]) (by kernel_rfl) (by simp) ?_
  refine AllReadyH.cons rfl (fun K hK => ?_) AllReadyH.nil
  go_simp
  (go_at_call 92; refine (HJ.out).mono ?_; rintro e wj ⟨vj, rfl, hown⟩; have hb : Below w6.heap.size w6 wj := hown.2; obtain ⟨Aj, cj, rfl, hsl, hc, ha⟩ := own_facts hown; have HSJ := Lib.hid hsl; have HCJ := Lib.hid hc; have HAJ := Lib.hid ha; have HBj := Lib.hid (below_then HB6.out hb); have HKj := Lib.hid (HK6.out.later hb); have HZj := Lib.hid (HZ6.out.later hb); clear hown hb hsl hc ha)
  refine hK.out _ _ (HKj.out) (fun hHeld => ?_)
  clear hK K
  try simp only [Act.put, List.setIfInBounds_toArray, List.set_cons_zero, List.set_cons_succ, List.getElem_toArray, List.getElem_cons_zero, List.getElem_cons_succ]
  refine wpAnyH_ready (rs := [15]) (by kernel_rfl) (by simp) ?_
  refine AllReadyH.cons rfl (fun K hK => ?_) AllReadyH.nil
  go_simp
  (go_at_call 91; refine (hof_any wj Aj _ cj L HSJ.out HLO.out HCJ.out HAJ.out).mono ?_; rintro e w8 ⟨rfl, hb⟩; have HK8 := Lib.hid (HKj.out.later hb); have HZ8 := Lib.hid (HZj.out.later hb); have HB8 := Lib.hid (below_then HBj.out hb); clear hb)
  refine hK.out _ _ (HK8.out) (fun hHeld => ?_)
  clear hK K
  try simp only [Act.put, List.setIfInBounds_toArray, List.set_cons_zero, List.set_cons_succ, List.getElem_toArray, List.getElem_cons_zero, List.getElem_cons_succ]
  refine wpAnyH_ready (rs := [16]) (by kernel_rfl) (by simp) ?_
  refine AllReadyH.cons rfl (fun K hK => ?_) AllReadyH.nil
  rw [if_pos (by rfl)]
  refine wp_store_part _ _ _ rfl (w.heap.size + 1) 0 _ (dl (ofI L)) rfl rfl rfl _ ([]) (dl zeroD) ([]) HZ8.out rfl (by rw [dl_len, dl_len, (ofI_ok L).len]; rfl) (hdg_size _ (ofI_ok L)) (dl_one' _) ?_
  intro w9 hp9
  refine hK.out _ _ (hHeld.grown hp9.only (by intro h; injection h with h; omega)) (fun hHeld => ?_)
  clear hK K
  try simp only [Act.put, List.getElem_toArray, List.getElem_cons_zero, List.getElem_cons_succ]
  refine wpAnyH_done (by kernel_rfl) ?_ _
  have HK9 : Hid (Bk w9 (w.heap.size + 1) 29 (dl (ofI L))) := by show Bk _ _ _ _; have := hp9.bk; simpa using this
  have HB9 := Lib.hid (below_only HB8.out hp9.only HB8.out.size (Nat.le_succ _))
  have HD := Lib.hid (hdg_size _ (ofI_ok L))
  clear hHeld hp9
  go_wp2_with fail
  refine bodyPost_ret (results_cell_bk rfl _ _ (w.heap.size + 1) 29 (dl (ofI L)) _ rfl HK9.out Try.underlying29 rfl HD.out) rfl ?_
  exact ⟨by rw [HLE.out], HB9.out⟩
end Go.Proofs.Ythibihjblodfmaa
