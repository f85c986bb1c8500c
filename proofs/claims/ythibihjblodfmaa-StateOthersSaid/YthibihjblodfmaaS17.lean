/- Signatures of another state, or of other seats: the walk of StateOthers. -/
import Derived.Test.YthibihjblodfmaaS16
import Derived.Test.YthibihjblodfmaaS15
import Derived.Test.YthibihjblodfmaaRL
namespace Go.Proofs.Ythibihjblodfmaa
open Go.RowKit Go.Maps

theorem bs_three (w : World) : (Instr.buildSlice 89 3 #[(0, .agg (dl (keyO 0)).toArray), (1, .agg (dl (keyO 1)).toArray), (2, .agg (dl (keyO 2)).toArray)]).run Try.prog w = .ok (.slice (some ⟨w.heap.size, 0, none⟩) 3 3) (w.alloc (.cells (cellsD keysO).toArray 29)) := by kernel_rfl
theorem build_o1 (w : World) : (Instr.build 29 #[(0, .int .u8 1)]).run Try.prog w = .ok (.agg (dl (keyO 0)).toArray) w := by kernel_rfl
theorem build_o2 (w : World) : (Instr.build 29 #[(0, .int .u8 2)]).run Try.prog w = .ok (.agg (dl (keyO 1)).toArray) w := by kernel_rfl
theorem build_o3 (w : World) : (Instr.build 29 #[(0, .int .u8 3)]).run Try.prog w = .ok (.agg (dl (keyO 2)).toArray) w := by kernel_rfl
theorem oth_three (ps : List Pc) (h : ps.map Pc.bs = sigO 3) : ∃ p q r, ps = [p, q, r] ∧ p.bs = sigB 0 ∧ q.bs = sigB 1 ∧ r.bs = sigB 2 := by
  match ps, h with
  | [], h => simp [sigO, List.range, List.range.loop] at h
  | [p], h => simp [sigO, List.range, List.range.loop] at h
  | [p, q], h => simp [sigO, List.range, List.range.loop] at h
  | [p, q, r], h => simp [sigO, List.range, List.range.loop] at h; exact ⟨p, q, r, rfl, h.1, h.2.1, h.2.2⟩
  | p :: q :: r :: s :: l, h => simp [sigO, List.range, List.range.loop] at h
theorem Sl.tail1 {w : World} {B n : Nat} {A : Option Addr} {x : Value} {xs : List Value} (h : Sl w B 1 A (n + 1) (x :: xs)) : ∃ b o, A = some ⟨b, o, none⟩ ∧ b < B ∧ w.cell? ⟨b, o, none⟩ = some x ∧ Sl w B 1 (some ⟨b, o + 1, none⟩) n xs := by
  obtain ⟨b, o, rfl, hb, hc⟩ := h.spot (by omega) (by omega)
  have hl := h.len; have hle := h.le
  refine ⟨b, o, rfl, hb, hc 0 x rfl, ⟨by simpa using hl, by omega, fun _ => ⟨_, rfl, hb, fun j u hu => ?_⟩⟩⟩
  rw [add_plain, show o + 1 + j = o + (j + 1) by omega]
  exact hc (j + 1) u (by simpa using hu)
/-- What digests a state comes to, hidden. -/
def DigOf (t : List Int) (n : Int) (A : Option Addr) (N C : Nat) (xs m : List Int) : Prop :=
  ∀ w', Sl w' w'.heap.size 1 A N (xs.map (.int .u8)) → Calls Try.prog 46 #[.agg (staC n t (.slice A N C)).toArray] w' fun e w'' => e = .returned (.agg (dl m).toArray) ∧ Below w'.heap.size w' w''
set_option maxRecDepth 20000 in
set_option maxHeartbeats 8000000 in
theorem sothers_any (w : World) (t t' : List Int) (ht : DgOk t) (ht' : DgOk t') (n n' : Int) (hn : -9223372036854775808 ≤ n ∧ n < 9223372036854775808) (hn' : -9223372036854775808 ≤ n' ∧ n' < 9223372036854775808) (A A' : Option Addr) (N C N' C' : Nat) (bs bs' : List Int) (hNC : N ≤ C) (hNC' : N' ≤ C')
    (hb : Sl w w.heap.size 1 A N (bs.map (.int .u8))) (hb' : Sl w w.heap.size 1 A' N' (bs'.map (.int .u8))) (hbo : ByOk bs) (hbo' : ByOk bs') :
    Calls Try.prog 10 #[.agg (staC n t (.slice A N C)).toArray, .agg (staC n' t' (.slice A' N' C')).toArray] w fun e w' => e = .returned (.bool true) ∧ Below w.heap.size w w' := by
  obtain ⟨X, hX⟩ : ∃ X, (staC n t (.slice A N C)).toArray = X := ⟨_, rfl⟩
  obtain ⟨Y, hY⟩ : ∃ Y, (staC n' t' (.slice A' N' C')).toArray = Y := ⟨_, rfl⟩
  obtain ⟨w1, hw1⟩ : ∃ w1, (w.alloc (.cells X 31)).alloc (.cells Y 31) = w1 := ⟨_, rfl⟩
  have hb1 : Below w.heap.size w w1 := hw1 ▸ (below_new w _).alloc (by simp) _
  have kx : Bk w1 w.heap.size 31 (staC n t (.slice A N C)) := hw1 ▸ (Bk.new' w _ X (by rw [← hX])).alloc _
  have ky : Bk w1 (w.heap.size + 1) 31 (staC n' t' (.slice A' N' C')) := hw1 ▸ Bk.at_ _ _ Y (by simp) (by rw [← hY])
  have HW := Lib.hid hw1; have HBB1 := Lib.hid hb1; have HA1 := Lib.hid kx; have HB1 := Lib.hid ky; have HTO := Lib.hid ht; have HUO := Lib.hid ht'
  have hn0 : Hid (-9223372036854775808 ≤ n) := hn.1
  have hn1 : Hid (n < 9223372036854775808) := hn.2
  have hm0 : Hid (-9223372036854775808 ≤ n') := hn'.1
  have hm1 : Hid (n' < 9223372036854775808) := hn'.2
  obtain ⟨KA, hKA⟩ : ∃ K, min N 5000 = K := ⟨_, rfl⟩
  obtain ⟨KB, hKB⟩ : ∃ K, min N' 5000 = K := ⟨_, rfl⟩
  have hKA1 : KA ≤ 5000 := by omega
  have hKB1 : KB ≤ 5000 := by omega
  have HX0 := Lib.hid (hb.head1 (k := KA) (by omega)); have HY0 := Lib.hid (hb'.head1 (k := KB) (by omega))
  have HBO : Hid (ByOk (bs.take KA)) := hbo.take KA
  have HBO' : Hid (ByOk (bs'.take KB)) := hbo'.take KB
  obtain ⟨ps, hps⟩ : ∃ xs, bs.take KA = xs := ⟨_, rfl⟩
  obtain ⟨qs, hqs⟩ : ∃ xs, bs'.take KB = xs := ⟨_, rfl⟩
  rw [hps] at HX0 HBO
  rw [hqs] at HY0 HBO'
  have HFEW := Lib.hid (fun w => few_any w A N C hNC)
  have HFEW' := Lib.hid (fun w => few_any w A' N' C' hNC')
  rw [hKA] at HFEW
  rw [hKB] at HFEW'
  obtain ⟨m, hm⟩ : ∃ d, ofI (stB t n ps) = d := ⟨_, rfl⟩
  obtain ⟨m', hm'⟩ : ∃ d, ofI (stB t' n' qs) = d := ⟨_, rfl⟩
  have HMO : Hid (DgOk m) := by show DgOk _; rw [← hm]; exact ofI_ok _
  have HMO' : Hid (DgOk m') := by show DgOk _; rw [← hm']; exact ofI_ok _
  have HDS : Hid (DigOf t n A KA C ps m) := fun w' h => by
    have := sdigest_any w' n t ht A KA C ps h HBO.out (by omega) hn0 hn1; rwa [hm] at this
  have HDT : Hid (DigOf t' n' A' KB C' qs m') := fun w' h => by
    have := sdigest_any w' n' t' ht' A' KB C' qs h HBO'.out (by omega) hm0 hm1; rwa [hm'] at this
  have heq := fun W => dg_eq_run m m' HMO.out HMO'.out W
  obtain ⟨eb, heb⟩ : ∃ b, eqL m m' = b := ⟨_, rfl⟩
  rw [heb] at heq
  have HEB : Hid (decide (m = m') = eb) := by show _ = _; rw [← heb]; rfl
  have HAZ : Hid ((Try.prog.info? 31).map (·.size) = some (staC n t (.slice A KA C)).length) := by show _ = _; rw [staC_len ht]; exact st_size
  have HBZ : Hid ((Try.prog.info? 31).map (·.size) = some (staC n' t' (.slice A' KB C')).length) := by show _ = _; rw [staC_len ht']; exact st_size
  have HPL : Hid ((dl t ++ [Value.int .i64 n]).length = 9) := by show _ = _; simp [dl_len, ht.len]
  have HPL' : Hid ((dl t' ++ [Value.int .i64 n']).length = 9) := by show _ = _; simp [dl_len, ht'.len]
  obtain ⟨iP, hPi, hPz, hPs, hPb⟩ := info_parts Try.infoSlB
  rw [hX, hY]
  clear hX hY hw1 hb1 kx ky ht ht' hb hb' hbo hbo' hn hn' hps hqs hm hm' hKA hKB heb
  go_enter Try.func10, Try.ntmps10
  go_upto_region 1 with fail
  rw [HW.out]
  go_wp2_with fail
  refine wp_region_L [(2, fun w' => Bk w' w.heap.size 31 (staC n t (.slice A N C))), (5, fun w' => Bk w' (w.heap.size + 1) 31 (staC n' t' (.slice A' N' C')))] (by kernel_rfl) ⟨fun _ => Bk.drew HA1.out, fun _ => Bk.drew HB1.out, trivial⟩ (fun hHeld => ?_)
  refine wpAnyL_take0 (i := 0) (v := ?_) rfl (by kernel_rfl) (by kernel_rfl) (by kernel_rfl) (by rfl) (fun _ _ _ h => h) (Or.inl ⟨by rfl, ?_⟩) hHeld ?_
  rotate_left
  · intro w _
    go_simp
    try with_reducible rfl
  clear hHeld
  intro hHeld
  try simp only [Act.put, List.setIfInBounds_toArray, List.set_cons_zero, List.set_cons_succ, List.getElem_toArray, List.getElem_cons_zero]
  refine wpAnyL_take0 (i := 3) (v := ?_) rfl (by kernel_rfl) (by kernel_rfl) (by kernel_rfl) (by rfl) (fun _ _ _ h => h) (Or.inl ⟨by rfl, ?_⟩) hHeld ?_
  rotate_left
  · intro w _
    go_simp
    try with_reducible rfl
  clear hHeld
  intro hHeld
  try simp only [Act.put, List.setIfInBounds_toArray, List.set_cons_zero, List.set_cons_succ, List.getElem_toArray, List.getElem_cons_zero, List.getElem_cons_succ]
  refine wpAnyL_take (i := 1) 0 rfl rfl (by kernel_rfl) (by kernel_rfl) (by kernel_rfl) (by kernel_rfl) (by kernel_rfl) (by rfl) (fun _ _ _ h => h) (v := ?_) (Or.inl ⟨by rfl, ?_⟩) hHeld ?_
  rotate_left
  · intro w hSw
    have hcell := (st_mem HTO.out hSw).c9
    clear hSw
    go_simp
    try with_reducible rfl
  clear hHeld
  intro hHeld
  try simp only [Act.put, List.setIfInBounds_toArray, List.set_cons_zero, List.set_cons_succ, List.getElem_toArray, List.getElem_cons_zero, List.getElem_cons_succ]
  refine wpAnyL_take (i := 4) 1 rfl rfl (by kernel_rfl) (by kernel_rfl) (by kernel_rfl) (by kernel_rfl) (by kernel_rfl) (by rfl) (fun _ _ _ h => h) (v := ?_) (Or.inl ⟨by rfl, ?_⟩) hHeld ?_
  rotate_left
  · intro w hSw
    have hcell := (st_mem HUO.out hSw).c9
    clear hSw
    go_simp
    try with_reducible rfl
  clear hHeld
  intro hHeld
  try simp only [Act.put, List.setIfInBounds_toArray, List.set_cons_zero, List.set_cons_succ, List.getElem_toArray, List.getElem_cons_zero, List.getElem_cons_succ]
  refine wpAnyL_ready (rs := [2]) (by kernel_rfl) (by simp) ?_
  refine AllReadyL.cons rfl (fun K hK => ?_) AllReadyL.nil
  go_simp
  (go_at_call 41; refine (HFEW.out w1.drew).mono ?_; rintro e w2 ⟨rfl, rfl⟩)
  refine hK.out _ _ (⟨fun h => dead h (by kernel_rfl), fun _ => Bk.drew HB1.out, trivial⟩) (fun hHeld => ?_)
  clear hK K
  try simp only [Act.put, List.setIfInBounds_toArray, List.set_cons_zero, List.set_cons_succ, List.getElem_toArray, List.getElem_cons_zero, List.getElem_cons_succ]
  refine wpAnyL_take0 (i := 6) (v := ?_) rfl (by kernel_rfl) (by kernel_rfl) (by kernel_rfl) (by rfl) (fun _ _ _ h => h) (Or.inl ⟨by rfl, ?_⟩) hHeld ?_
  rotate_left
  · intro w _
    go_simp
    try with_reducible rfl
  clear hHeld
  intro hHeld
  try simp only [Act.put, List.setIfInBounds_toArray, List.set_cons_zero, List.set_cons_succ, List.getElem_toArray, List.getElem_cons_zero, List.getElem_cons_succ]
  refine wpAnyL_ready (rs := [5]) (by kernel_rfl) (by simp) ?_
  refine AllReadyL.cons rfl (fun K hK => ?_) AllReadyL.nil
  go_simp
  (go_at_call 41; refine (HFEW'.out w1.drew).mono ?_; rintro e w2 ⟨rfl, rfl⟩)
  refine hK.out _ _ (⟨fun h => dead h (by kernel_rfl), fun h => dead h (by kernel_rfl), trivial⟩) (fun hHeld => ?_)
  clear hK K
  try simp only [Act.put, List.setIfInBounds_toArray, List.set_cons_zero, List.set_cons_succ, List.getElem_toArray, List.getElem_cons_zero, List.getElem_cons_succ]
  obtain ⟨w3, hw3⟩ : ∃ w3, w1.drew = w3 := ⟨_, rfl⟩
  have hbn : Below w1.heap.size w1 w3 := hw3 ▸ below_draws w1 _ 1
  rw [hw3] at hHeld ⊢
  clear hw3
  have HBB3 := Lib.hid (below_then HBB1.out hbn)
  have HA3 := Lib.hid (HA1.out.later hbn)
  have HB3 := Lib.hid (HB1.out.later hbn)
  clear hbn
  rw [sta_pre] at HA3
  refine wpAnyL_ready (rs := [7]) (by kernel_rfl) (by simp) ?_
  refine AllReadyL.cons rfl (fun K hK => ?_) AllReadyL.nil
  rw [if_pos (by rfl)]
  refine wp_store_part _ _ _ rfl w.heap.size 9 _ ([.slice A KA C]) rfl rfl rfl _ (dl t ++ [.int .i64 n]) ([.slice A N C]) ([]) HA3.out HPL.out rfl (by kernel_rfl) (by simp [Value.oneCell']) ?_
  intro w4 hp4
  refine hK.out _ _ ⟨fun h => dead h (by kernel_rfl), fun h => dead h (by kernel_rfl), trivial⟩ (fun hHeld => ?_)
  clear hK K
  try simp only [Act.put, List.getElem_toArray, List.getElem_cons_zero, List.getElem_cons_succ]
  have HA4 : Hid (Bk w4 w.heap.size 31 (staC n t (.slice A KA C))) := by show Bk _ _ _ _; rw [sta_pre]; exact hp4.bk
  have HB4 := Lib.hid (HB3.out.grown hp4.only (by intro h; injection h with h; omega))
  have HBB4 := Lib.hid (below_only HBB3.out hp4.only HBB3.out.size (Nat.le_refl _))
  rw [sta_pre] at HB4
  clear hp4
  refine wpAnyL_take0 (i := 8) (v := ?_) rfl (by kernel_rfl) (by kernel_rfl) (by kernel_rfl) (by rfl) (fun _ _ _ h => h) (Or.inl ⟨by rfl, ?_⟩) hHeld ?_
  rotate_left
  · intro w _
    go_simp
    try with_reducible rfl
  clear hHeld
  intro hHeld
  try simp only [Act.put, List.setIfInBounds_toArray, List.set_cons_zero, List.set_cons_succ, List.getElem_toArray, List.getElem_cons_zero, List.getElem_cons_succ]
  refine wpAnyL_ready (rs := [9]) (by kernel_rfl) (by simp) ?_
  refine AllReadyL.cons rfl (fun K hK => ?_) AllReadyL.nil
  rw [if_pos (by rfl)]
  refine wp_store_part _ _ _ rfl (w.heap.size + 1) 9 _ ([.slice A' KB C']) rfl rfl rfl _ (dl t' ++ [.int .i64 n']) ([.slice A' N' C']) ([]) HB4.out HPL'.out rfl (by kernel_rfl) (by simp [Value.oneCell']) ?_
  intro w5 hp5
  refine hK.out _ _ ⟨fun h => dead h (by kernel_rfl), fun h => dead h (by kernel_rfl), trivial⟩ (fun hHeld => ?_)
  clear hK K
  try simp only [Act.put, List.getElem_toArray, List.getElem_cons_zero, List.getElem_cons_succ]
  have HB5 : Hid (Bk w5 (w.heap.size + 1) 31 (staC n' t' (.slice A' KB C'))) := by show Bk _ _ _ _; rw [sta_pre]; exact hp5.bk
  have HA5 := Lib.hid (HA4.out.grown hp5.only (by intro h; injection h with h; omega))
  have HBB5 := Lib.hid (below_only HBB4.out hp5.only HBB4.out.size (Nat.le_succ _))
  clear hp5
  refine wpAnyL_done (by kernel_rfl) ?_ _
  clear hHeld HA1 HB1 HA3 HB3 HA4 HB4
  go_wp2_with fail
  refine (newBook_any _).mono ?_
  rintro e w6 ⟨⟨g, rfl, hbk⟩, hbn⟩
  obtain ⟨lo, hlo⟩ : ∃ l, w5.heap.size = l := ⟨_, rfl⟩
  rw [hlo] at hbk
  have HLO : Hid (w.heap.size ≤ lo) := by show _ ≤ _; rw [← hlo]; exact HBB5.out.size
  have HBK6 := Lib.hid hbk
  clear hbk hlo
  have HBB6 := Lib.hid (below_then HBB5.out hbn)
  have HA6 := Lib.hid (HA5.out.later hbn)
  have HB6 := Lib.hid (HB5.out.later hbn)
  clear hbn
  go_wp2_with fail
  refine (stold_any _).mono ?_
  rintro e w7 ⟨rfl, hbn⟩
  have HBB7 := Lib.hid (below_then HBB6.out hbn)
  have HA7 := Lib.hid (HA6.out.later hbn)
  have HB7 := Lib.hid (HB6.out.later hbn)
  have HBK7 := Lib.hid (HBK6.out.later hbn)
  clear hbn
  go_wp2_with (first
    | ((with_reducible refine wpList_build rfl 29 _ rfl #[(0, .int .u8 1)] ?_ _ (build_o1 _) ?_); focus (simp [Act.eval, Act.put]; done))
    | ((with_reducible refine wpList_build rfl 29 _ rfl #[(0, .int .u8 2)] ?_ _ (build_o2 _) ?_); focus (simp [Act.eval, Act.put]; done))
    | ((with_reducible refine wpList_build rfl 29 _ rfl #[(0, .int .u8 3)] ?_ _ (build_o3 _) ?_); focus (simp [Act.eval, Act.put]; done))
    | (with_reducible refine stop_bs 89 3 _ rfl ?_))
  refine StopD.go ?_
  (with_reducible refine wpList_bsliceG ?_ 89 3 _ rfl #[(0, .agg (dl (keyO 0)).toArray), (1, .agg (dl (keyO 1)).toArray), (2, .agg (dl (keyO 2)).toArray)] ?_ 29 (cellsD keysO) bs_three ?_)
  · rfl
  · simp [Act.eval]
  intro gk w8 _ hky hbn
  have HKY8 : Hid (Bk w8 gk 29 (cellsD keysO)) := hky
  clear hky
  have HBB8 := Lib.hid (below_then HBB7.out hbn)
  have HA8 := Lib.hid (HA7.out.later hbn)
  have HB8 := Lib.hid (HB7.out.later hbn)
  have HBK8 := Lib.hid (HBK7.out.later hbn)
  clear hbn
  obtain ⟨B1, hB1⟩ : ∃ B, w8.heap.size = B := ⟨_, rfl⟩
  have HGK : Hid (gk < B1) := by show _ < _; rw [← hB1]; exact HKY8.out.lt
  have HGA : Hid (w.heap.size + 1 < B1) := by show _ < _; rw [← hB1]; exact HB8.out.lt
  have HWB : Hid (w.heap.size ≤ B1) := by show _ ≤ _; rw [← hB1]; exact HBB8.out.size
  have HB18 : Hid (B1 ≤ w8.heap.size) := by show _ ≤ _; omega
  clear hB1
  go_wp2_with fail
  go_loopw [7, 9] (fun lv iv wr => ∃ (k : Nat) (rs : List Pc), k ≤ 3 ∧ iv = .int .i64 k ∧ Hid (rs.map Pc.bs = sigO k) ∧ Hid (wr.ownsRow B1 23 1 lv k (rs.map Pc.v)) ∧ Hid (PcsOwn wr B1 rs) ∧ Hid (BookAt wr lo g (entO m k)) ∧ Hid (Below w.heap.size w wr) ∧ Hid (Bk wr gk 29 (cellsD keysO)) ∧ Hid (Bk wr w.heap.size 31 (staC n t (.slice A KA C))) ∧ Hid (Bk wr (w.heap.size + 1) 31 (staC n' t' (.slice A' KB C'))) ∧ Hid (B1 ≤ wr.heap.size)) (fun _ iv _ => 3 - (intOf iv).toNat)
  case atStart => exact ⟨0, [], Nat.zero_le _, rfl, rfl, World.ownsRow_nil _ _ _ _, PcsOwn.nil_ _ _, HBK8.out, HBB8.out, HKY8.out, HA8.out, HB8.out, HB18.out⟩
  case round =>
    obtain ⟨k, rs, hk, rfl, HF, HSVr, HPOr, HBKr, HBBr, HKYr, HAr, HBr, HBs⟩ := hrel
    by_cases hlt : k < 3
    · have hki : (k : Int) < 3 := by omega
      have HKO : Hid (DgOk (keyO k)) := keyO_ok hlt
      have HKG : Hid (keysO[k]? = some (keyO k)) := keysO_get hlt
      have HKD := Lib.hid (hdg_size (keyO k) HKO.out)
      have HKSr := Lib.hid (HKYr.out.sl8 (n := 3) keysO_ok rfl (by omega))
      go_wp2_with fail
      refine wp_region_held_drew (S := fun w' => w'.rangeAt gk (0 + k * 8) (dl (keyO k)) ∧ Bk w' w.heap.size 31 (staC n t (.slice A KA C))) (by kernel_rfl) ⟨sl_dgl HKSr.out.drew keysO_ok HKG.out, Bk.drew HAr.out⟩ (fun hHeld => ?_)
      refine wpAnyH_take (i := 0) (v := ?_) rfl (by kernel_rfl) (by kernel_rfl) (by kernel_rfl) (fun _ _ _ h => h) (Or.inl ⟨by rfl, ?_⟩) (by assumption) ?_
      rotate_left
      · intro w hSw
        (try dsimp only at hSw)
        go_simp
        try with_reducible rfl
      try simp only [Act.put, List.setIfInBounds_toArray, List.set_cons_zero, List.set_cons_succ, List.getElem_toArray, List.getElem_cons_zero]
      refine wpAnyH_take (i := 1) (v := ?_) rfl (by kernel_rfl) (by kernel_rfl) (by kernel_rfl) (fun _ _ _ h => h) (Or.inl ⟨by rfl, ?_⟩) (by assumption) ?_
      rotate_left
      · intro w hSw
        (try dsimp only at hSw)
        go_simp
        try with_reducible rfl
      try simp only [Act.put, List.setIfInBounds_toArray, List.set_cons_zero, List.set_cons_succ, List.getElem_toArray, List.getElem_cons_zero, List.getElem_cons_succ]
      refine wpAnyH_take (i := 2) (v := ?_) rfl (by kernel_rfl) (by kernel_rfl) (by kernel_rfl) (fun _ _ _ h => h) (Or.inl ⟨by rfl, ?_⟩) (by assumption) ?_
      rotate_left
      · intro w hSw
        (try dsimp only at hSw)
        go_simp
        try with_reducible rfl
      try simp only [Act.put, List.setIfInBounds_toArray, List.set_cons_zero, List.set_cons_succ, List.getElem_toArray, List.getElem_cons_zero, List.getElem_cons_succ]
      refine wpAnyH_take (i := 6) (v := .agg (List.toArray (staC n t (.slice A KA C)))) rfl (by kernel_rfl) (by kernel_rfl) (by kernel_rfl) (fun _ _ _ h => h) (yieldsIf_load_mid (by rfl) _ _ rfl _ _ rfl (staC n t (.slice A KA C)) _ (fun w hSw => (Bk.range (pre := []) (post := []) (by simpa using hSw.2) rfl)) Try.underlying31 rfl (HAZ.out)) (by assumption) ?_
      try simp only [Act.put, List.setIfInBounds_toArray, List.set_cons_zero, List.set_cons_succ, List.getElem_toArray, List.getElem_cons_zero, List.getElem_cons_succ]
      refine wpAnyH_take (i := 3) (v := ?_) rfl (by kernel_rfl) (by kernel_rfl) (by kernel_rfl) (fun _ _ _ h => h) (Or.inl ⟨by rfl, ?_⟩) (by assumption) ?_
      rotate_left
      · intro w hSw
        (try dsimp only at hSw)
        go_simp
        try with_reducible rfl
      try simp only [Act.put, List.setIfInBounds_toArray, List.set_cons_zero, List.set_cons_succ, List.getElem_toArray, List.getElem_cons_zero, List.getElem_cons_succ]
      refine wpAnyH_take (i := 4) (v := .agg (List.toArray (dl (keyO k)))) rfl (by kernel_rfl) (by kernel_rfl) (by kernel_rfl) (fun _ _ _ h => h) (yieldsIf_load_mid (by rfl) _ _ rfl _ _ rfl (dl (keyO k)) _ (fun w hSw => (by simpa using hSw.1)) Try.underlying29 rfl (HKD.out)) (by assumption) ?_
      try simp only [Act.put, List.setIfInBounds_toArray, List.set_cons_zero, List.set_cons_succ, List.getElem_toArray, List.getElem_cons_zero, List.getElem_cons_succ]
      refine wpAnyH_ready (rs := [5]) (by kernel_rfl) (by simp) ?_
      refine AllReadyH.cons rfl (fun K hK => ?_) AllReadyH.nil
      go_simp
      (go_at_call 26; refine (signer_any wr.drew g (keyO k) HKO.out).mono ?_; rintro e w24 ⟨rfl, hbn⟩; have hbn := (below_draws wr _ 1).trans hbn; have HB24' : Hid (B1 ≤ w24.heap.size) := Nat.le_trans HBs.out hbn.size; have HBB24 := Lib.hid (below_then HBBr.out hbn); have HSV24 := Lib.hid (HSVr.out.later hbn); have HPO24 := Lib.hid (HPOr.out.later hbn); have HBK24 := Lib.hid (HBKr.out.later hbn); have HKY24 := Lib.hid (HKYr.out.later hbn); have HA24 := Lib.hid (HAr.out.later hbn); have HB24 := Lib.hid (HBr.out.later hbn); have HKS24 := Lib.hid (HKSr.out.later hbn); clear hbn)
      refine hK.out _ _ (⟨sl_dgl HKS24.out keysO_ok HKG.out, HA24.out⟩) (fun hHeld => ?_)
      clear hK K
      try simp only [Act.put, List.setIfInBounds_toArray, List.set_cons_zero, List.set_cons_succ, List.getElem_toArray, List.getElem_cons_zero, List.getElem_cons_succ]
      refine wpAnyH_take (i := 8) (v := ?_) rfl (by kernel_rfl) (by kernel_rfl) (by kernel_rfl) (fun _ _ _ h => h) (Or.inl ⟨by rfl, ?_⟩) (by assumption) ?_
      rotate_left
      · intro w hSw
        (try dsimp only at hSw)
        go_simp
        try with_reducible rfl
      try simp only [Act.put, List.setIfInBounds_toArray, List.set_cons_zero, List.set_cons_succ, List.getElem_toArray, List.getElem_cons_zero, List.getElem_cons_succ]
      refine wpAnyH_take (i := 9) (v := ?_) rfl (by kernel_rfl) (by kernel_rfl) (by kernel_rfl) (fun _ _ _ h => h) (Or.inl ⟨by rfl, ?_⟩) (by assumption) ?_
      rotate_left
      · intro w hSw
        have hcell := nil_wr (wrC g (keyO k)).toArray
        clear hSw
        go_simp
        try with_reducible rfl
      try simp only [Act.put, List.setIfInBounds_toArray, List.set_cons_zero, List.set_cons_succ, List.getElem_toArray, List.getElem_cons_zero, List.getElem_cons_succ]
      refine wpAnyH_take (i := 10) (v := ?_) rfl (by kernel_rfl) (by kernel_rfl) (by kernel_rfl) (fun _ _ _ h => h) (Or.inl ⟨by rfl, ?_⟩) (by assumption) ?_
      rotate_left
      · intro w hSw
        (try dsimp only at hSw)
        go_simp
        try with_reducible rfl
      try simp only [Act.put, List.setIfInBounds_toArray, List.set_cons_zero, List.set_cons_succ, List.getElem_toArray, List.getElem_cons_zero, List.getElem_cons_succ]
      refine wpAnyH_ready (rs := [7]) (by kernel_rfl) (by simp) ?_
      refine AllReadyH.cons rfl (fun K hK => ?_) AllReadyH.nil
      go_simp
      (go_at_call 46; refine (HDS.out w24 (HX0.out.later HBB24.out)).mono ?_; rintro e w25 ⟨rfl, hbn⟩; have HB25' : Hid (B1 ≤ w25.heap.size) := Nat.le_trans HB24'.out hbn.size; have HBB25 := Lib.hid (below_then HBB24.out hbn); have HSV25 := Lib.hid (HSV24.out.later hbn); have HPO25 := Lib.hid (HPO24.out.later hbn); have HBK25 := Lib.hid (HBK24.out.later hbn); have HKY25 := Lib.hid (HKY24.out.later hbn); have HA25 := Lib.hid (HA24.out.later hbn); have HB25 := Lib.hid (HB24.out.later hbn); have HKS25 := Lib.hid (HKS24.out.later hbn); clear hbn)
      refine hK.out _ _ (⟨sl_dgl HKS25.out keysO_ok HKG.out, HA25.out⟩) (fun hHeld => ?_)
      clear hK K
      try simp only [Act.put, List.setIfInBounds_toArray, List.set_cons_zero, List.set_cons_succ, List.getElem_toArray, List.getElem_cons_zero, List.getElem_cons_succ]
      have hmt := meth_wr (wrC g (keyO k)).toArray
      refine wpAnyH_ready (rs := [11]) (by kernel_rfl) (by simp) ?_
      refine AllReadyH.cons rfl (fun K hK => ?_) AllReadyH.nil
      go_simp
      (refine (wsign_any w25 lo g (entO m k) HBK25.out (keyO k) m HKO.out HMO.out (by rw [entO_len]; omega) HBK25.out.lo_le).mono ?_; rintro e w26 ⟨⟨A26, c26, rfl, hown⟩, hbk, hb26, hk26⟩; have HSV26 := Lib.hid (own_keeps HSV25.out hk26 (by decide) (by decide)); have HPO26 := Lib.hid (HPO25.out.keeps hk26); have HKY26 := Lib.hid (HKY25.out.keeps hk26 (by decide) (by decide)); have HA26 := Lib.hid (HA25.out.keeps hk26 (by decide) (by decide)); have HBx26 := Lib.hid (HB25.out.keeps hk26 (by decide) (by decide)); have HBK26 := Lib.hid hbk; have HBB26 := Lib.hid (HBB25.out.trans (hb26.mono HLO.out)); have HSG26 := Lib.hid (own_base hown HB25'.out); have HB26' : Hid (B1 ≤ w26.heap.size) := Nat.le_trans HB25'.out hk26.size; clear hown hbk hb26 hk26 hmt)
      refine hK.out _ _ (⟨sl_dgl (HKY26.out.sl8 (n := 3) keysO_ok rfl (by omega)) keysO_ok HKG.out, HA26.out⟩) (fun hHeld => ?_)
      clear hK K
      try simp only [Act.put, List.setIfInBounds_toArray, List.set_cons_zero, List.set_cons_succ, List.getElem_toArray, List.getElem_cons_zero, List.getElem_cons_succ]
      refine wpAnyH_take (i := 12) (v := ?_) rfl (by kernel_rfl) (by kernel_rfl) (by kernel_rfl) (fun _ _ _ h => h) (Or.inl ⟨by rfl, ?_⟩) (by assumption) ?_
      rotate_left
      · intro w hSw
        (try dsimp only at hSw)
        go_simp
        try with_reducible rfl
      try simp only [Act.put, List.setIfInBounds_toArray, List.set_cons_zero, List.set_cons_succ, List.getElem_toArray, List.getElem_cons_zero, List.getElem_cons_succ]
      refine wpAnyH_take (i := 13) (v := ?_) rfl (by kernel_rfl) (by kernel_rfl) (by kernel_rfl) (fun _ _ _ h => h) (Or.inl ⟨by rfl, ?_⟩) (by assumption) ?_
      rotate_left
      · intro w hSw
        (try dsimp only at hSw)
        go_simp
        try with_reducible rfl
      try simp only [Act.put, List.setIfInBounds_toArray, List.set_cons_zero, List.set_cons_succ, List.getElem_toArray, List.getElem_cons_zero, List.getElem_cons_succ]
      refine wpAnyH_take (i := 15) (v := ?_) rfl (by kernel_rfl) (by kernel_rfl) (by kernel_rfl) (fun _ _ _ h => h) (Or.inl ⟨by rfl, ?_⟩) (by assumption) ?_
      rotate_left
      · intro w hSw
        (try dsimp only at hSw)
        go_simp
        try with_reducible rfl
      try simp only [Act.put, List.setIfInBounds_toArray, List.set_cons_zero, List.set_cons_succ, List.getElem_toArray, List.getElem_cons_zero, List.getElem_cons_succ]
      refine wpAnyH_take (i := 14) (v := ?_) rfl (by kernel_rfl) (by kernel_rfl) (by kernel_rfl) (fun _ _ _ h => h) (Or.inl ⟨by rfl, ?_⟩) (by assumption) ?_
      rotate_left
      · intro w hSw
        (try dsimp only at hSw)
        go_simp
        try with_reducible rfl
      try simp only [Act.put, List.setIfInBounds_toArray, List.set_cons_zero, List.set_cons_succ, List.getElem_toArray, List.getElem_cons_zero, List.getElem_cons_succ]
      refine wpAnyH_take (i := 16) (v := ?_) rfl (by kernel_rfl) (by kernel_rfl) (by kernel_rfl) (fun _ _ _ h => h) (Or.inl ⟨by rfl, ?_⟩) (by assumption) ?_
      rotate_left
      · intro w hSw
        (try dsimp only at hSw)
        go_simp
        try with_reducible rfl
      try simp only [Act.put, List.setIfInBounds_toArray, List.set_cons_zero, List.set_cons_succ, List.getElem_toArray, List.getElem_cons_zero, List.getElem_cons_succ]
      refine wpAnyH_done (by kernel_rfl) ?_ _
      clear hHeld
      rw [bookS_new (entO_new m k), ← entO_succ] at HBK26
      rw [idx_new (entO_new m k), entO_len] at HSG26
      go_wp2_with (with_reducible refine stop_bs 90 1 _ rfl ?_)
      refine StopD.go ?_
      (with_reducible refine wpList_bsliceG ?_ 90 1 _ rfl #[(0, .slice A26 2 c26)] ?_ 23 [Value.slice A26 2 c26] (bs_p1 A26 2 c26) ?_)
      · rfl
      · simp [Act.eval]
      intro q27 w27 _ hq27 hbn
      have HQ27 : Hid (Sl w27 w27.heap.size 1 (some ⟨q27, 0, none⟩) 1 [Value.slice A26 2 c26]) := hq27.sl1 rfl (by omega)
      have HBx27 := Lib.hid (HBx26.out.later hbn); have HB27' : Hid (B1 ≤ w27.heap.size) := Nat.le_trans HB26'.out hbn.size
      clear hq27
      have HBB27 := Lib.hid (below_then HBB26.out hbn)
      have HSV27 := Lib.hid (HSV26.out.later hbn)
      have HPO27 := Lib.hid (HPO26.out.later hbn)
      have HBK27 := Lib.hid (HBK26.out.later hbn)
      have HKY27 := Lib.hid (HKY26.out.later hbn)
      have HA27 := Lib.hid (HA26.out.later hbn)
      have HSG27 := Lib.hid (HSG26.out.later hbn)
      clear hbn
      go_wp2_with (at_builtin; refine wpList_app _ rfl (.tmp 51) (.tmp 53) 90 rfl B1 23 iP (.slice none 0 0) 1 24 Try.underlying90 hPi hPz hPs hPb rfl (by decide) _ k _ rfl HSV27.out _ _ 1 1 [Value.slice A26 2 c26] rfl HQ27.out (by simp [Value.oneCell']) (by unfold maxLen; omega) (by omega) HB27'.out ?_; intro v28 w28 hown hg hat; refine stop_here ?_)
      refine StopD.go ?_
      have HSV28 : Hid (w28.ownsRow B1 23 1 v28 (k + 1) ((rs ++ [(⟨A26, 2, c26, sigB k⟩ : Pc)]).map Pc.v)) := by show World.ownsRow _ _ _ _ _ _ _; rw [List.map_append]; exact hown
      have HPO28 := Lib.hid ((HPO27.out.apart HSV27.out (by decide) hg).snoc (p := ⟨A26, 2, c26, sigB k⟩) (own_apart HSG27.out HSV27.out (by decide) hg))
      have HBK28 := Lib.hid (HBK27.out.own HSV27.out hg (by decide) (by decide))
      have HKY28 := Lib.hid (own_far HSV27.out HKY27.out HGK.out hg)
      have HA28 := Lib.hid (own_far HSV27.out HA27.out (Nat.lt_trans (Nat.lt_succ_self _) HGA.out) hg)
      have HBx28 := Lib.hid (own_far HSV27.out HBx27.out HGA.out hg)
      have HBB28 := Lib.hid (grown_below HBB27.out HSV27.out hg HWB.out HBB27.out.size)
      have HF28 : Hid ((rs ++ [(⟨A26, 2, c26, sigB k⟩ : Pc)]).map Pc.bs = sigO (k + 1)) := by show _ = _; rw [sigO_succ, ← HF.out]; simp
      have HB28' : Hid (B1 ≤ w28.heap.size) := Nat.le_trans HB27'.out hg.size
      clear hown hg hat
      go_wp2_with fail
      go_roundw
      case rel => exact ⟨k + 1, _, by omega, by go_num, HF28.out, HSV28.out, HPO28.out, HBK28.out, HBB28.out, HKY28.out, HA28.out, HBx28.out, HB28'.out⟩
      case measure => simp [intOf]; omega
    · obtain rfl : k = 3 := by omega
      obtain ⟨p, q, r, rfl, hp0, hq0, hr0⟩ := oth_three rs HF.out
      obtain ⟨o1, o2, o3⟩ := others m m p q r hp0 hq0 hr0
      obtain ⟨e1, _, e3⟩ := others m m' p q r hp0 hq0 hr0
      rw [decide_eq_true rfl] at o1
      rw [HEB.out] at e1
      have hc3 : cntB (entO m 3) m' keysO [p, q, r] = if eb then 3 else 0 := by rw [e3, ← HEB.out]; by_cases h : m = m' <;> simp [h]
      obtain ⟨c3, hc3'⟩ : ∃ c, cntB (entO m 3) m' keysO [p, q, r] = c := ⟨_, rfl⟩
      rw [hc3'] at hc3
      have h33 : ((c3 : Int) == 3) = eb := by rw [hc3]; cases eb <;> rfl
      have HO1 := Lib.hid o1; have HO2 := Lib.hid o2; have HE1 := Lib.hid e1; have HC3 := Lib.hid hc3'
      have hel : (entO m 3).length ≤ 65536 := by rw [entO_len]; omega
      have HPB : Hid (PcsBy [p, q, r]) := by
        intro x hx
        simp at hx
        rcases hx with rfl | rfl | rfl
        · rw [hp0]; exact sigB_ok (by omega)
        · rw [hq0]; exact sigB_ok (by omega)
        · rw [hr0]; exact sigB_ok (by omega)
      have HPB2 : Hid (PcsBy [q, r, p]) := fun x hx => HPB.out x (by simp at hx ⊢; rcases hx with h | h | h <;> simp [h])
      have HPN : Hid (∀ x ∈ [p, q, r], x.n ≤ 4294967296) := fun x hx => by
        have h2 := (HPOr.out x hx).1
        have h3 : x.bs.length = 2 := by
          simp at hx
          rcases hx with rfl | rfl | rfl
          · rw [hp0]; rfl
          · rw [hq0]; rfl
          · rw [hr0]; rfl
        simp at h2; omega
      obtain ⟨gl, cl, rfl, _, hglw⟩ := own_block HSVr.out (by omega)
      have hcl : 3 ≤ cl := by
        rcases own_bk HSVr.out with ⟨e, _, _⟩ | ⟨g', cap, ys, e, _, _, hnc, _⟩
        · cases e
        · injection e with _ _ e; omega
      have HPSr := Lib.hid (Sl.of_own HSVr.out); have HPCr : Hid (PcsOk wr [p, q, r]) := HPOr.out.ok
      have HTCr : Hid (PcsOk wr [q, r, p]) := fun x hx => HPCr.out x (by simp at hx ⊢; rcases hx with h | h | h <;> simp [h])
      have HKSr := Lib.hid (HKYr.out.sl8 (n := 3) keysO_ok rfl (by omega))
      have hcut : ∀ W, (Instr.slice 90 (.slice (some ⟨gl, 0, none⟩) 3 cl) (some (.int .i64 1)) none none).run Try.prog W = .ok (.slice (some ⟨gl, 1, none⟩) 2 (cl - 1)) W := fun W => by
        have := cut_run Try.underlying90 hPi (some ⟨gl, 0, none⟩) 3 cl 1 1 rfl (by omega) W
        rw [if_neg (by omega), hPs] at this
        simpa [add_plain] using this
      obtain ⟨b9, o9, hb9, _, hcell0, htl⟩ := Sl.tail1 (n := 2) HPSr.out
      injection hb9 with hb9; injection hb9 with hb9 ho9 _; subst hb9; subst ho9
      have HT0 := Lib.hid htl; have HC0 := Lib.hid hcell0
      clear hp0 hq0 hr0 o1 o2 e1 e3 hc3 hc3' hcell0 htl
      go_wp2_with fail
      refine wp_region_held_drew (S := fun w' => w'.cell? ⟨gl, 0, none⟩ = some (.slice p.A p.n p.c)) (by kernel_rfl) (HC0.out) (fun hHeld => ?_)
      refine wpAnyH_take (i := 0) (v := ?_) rfl (by kernel_rfl) (by kernel_rfl) (by kernel_rfl) (fun _ _ _ h => h) (Or.inl ⟨by rfl, ?_⟩) (by assumption) ?_
      rotate_left
      · intro w hSw
        (try dsimp only at hSw)
        go_simp
        try with_reducible rfl
      try simp only [Act.put, List.setIfInBounds_toArray, List.set_cons_zero, List.set_cons_succ, List.getElem_toArray, List.getElem_cons_zero]
      refine wpAnyH_take (i := 1) (v := ?_) rfl (by kernel_rfl) (by kernel_rfl) (by kernel_rfl) (fun _ _ _ h => h) (Or.inl ⟨by rfl, ?_⟩) (by assumption) ?_
      rotate_left
      · intro w hSw
        (try dsimp only at hSw)
        go_simp
        try with_reducible rfl
      try simp only [Act.put, List.setIfInBounds_toArray, List.set_cons_zero, List.set_cons_succ, List.getElem_toArray, List.getElem_cons_zero, List.getElem_cons_succ]
      refine wpAnyH_take (i := 4) (v := ?_) rfl (by kernel_rfl) (by kernel_rfl) (by kernel_rfl) (fun _ _ _ h => h) (Or.inl ⟨by rfl, ?_⟩) (by assumption) ?_
      rotate_left
      · intro w hSw
        (try dsimp only at hSw)
        go_simp
        try with_reducible rfl
      try simp only [Act.put, List.setIfInBounds_toArray, List.set_cons_zero, List.set_cons_succ, List.getElem_toArray, List.getElem_cons_zero, List.getElem_cons_succ]
      refine wpAnyH_take (i := 2) (v := ?_) rfl (by kernel_rfl) (by kernel_rfl) (by kernel_rfl) (fun _ _ _ h => h) (Or.inl ⟨by rfl, ?_⟩) (by assumption) ?_
      rotate_left
      · intro w hSw
        have hcell := hcut
        clear hSw
        go_simp
        try with_reducible rfl
      try simp only [Act.put, List.setIfInBounds_toArray, List.set_cons_zero, List.set_cons_succ, List.getElem_toArray, List.getElem_cons_zero, List.getElem_cons_succ]
      refine wpAnyH_take (i := 5) (v := ?_) rfl (by kernel_rfl) (by kernel_rfl) (by kernel_rfl) (fun _ _ _ h => h) (Or.inl ⟨by rfl, ?_⟩) (by assumption) ?_
      rotate_left
      · intro w hSw
        (try dsimp only at hSw)
        go_simp
        try with_reducible rfl
      try simp only [Act.put, List.setIfInBounds_toArray, List.set_cons_zero, List.set_cons_succ, List.getElem_toArray, List.getElem_cons_zero, List.getElem_cons_succ]
      refine wpAnyH_take (i := 6) (v := ?_) rfl (by kernel_rfl) (by kernel_rfl) (by kernel_rfl) (fun _ _ _ h => h) (Or.inl ⟨by rfl, ?_⟩) (by assumption) ?_
      rotate_left
      · intro w hSw
        have hcell := hSw
        clear hSw
        go_simp
        try with_reducible rfl
      try simp only [Act.put, List.setIfInBounds_toArray, List.set_cons_zero, List.set_cons_succ, List.getElem_toArray, List.getElem_cons_zero, List.getElem_cons_succ]
      refine wpAnyH_ready (rs := [3, 7]) (by kernel_rfl) (by simp) ?_
      refine AllReadyH.cons rfl (fun K hK => ?_) (AllReadyH.cons rfl (fun K hK => ?_) AllReadyH.nil)
      · rw [if_pos (by rfl)]
        refine wp_app _ (.tmp 55) (.tmp 57) 90 rfl wr.heap.size 23 iP (.slice none 0 0) 1 24 Try.underlying90 hPi hPz hPs hPb rfl (by decide) (.slice none 0 0) 0 [] rfl (World.ownsRow_nil _ _ _ _) _ _ 2 (cl - 1) [q.v, r.v] rfl HT0.out.drew (pcs_one [q, r]) (by unfold maxLen; omega) (by omega) (Nat.le_refl _) ?_
        intro v31 w31 hown hg hat
        obtain ⟨A31, c31, rfl⟩ := own_form hown
        have hb31 : Below wr.heap.size wr w31 := grown_below (below_draws wr _ 1) (World.ownsRow_nil wr.drew wr.heap.size 23 1) hg (Nat.le_refl _) (Nat.le_refl _)
        refine hK.out _ _ ((hb31.cell (p := ⟨gl, 0, none⟩) hglw).trans HC0.out) (fun hHeld => ?_)
        clear hK K
        try simp only [Act.put, List.setIfInBounds_toArray, List.set_cons_zero, List.set_cons_succ, List.getElem_toArray, List.getElem_cons_zero, List.getElem_cons_succ]
        have hnw := below_new w31 (.cells ([Value.slice p.A p.n p.c]).toArray 23)
        have HN32 : Hid (Sl (w31.alloc (.cells ([Value.slice p.A p.n p.c]).toArray 23)) (w31.alloc (.cells ([Value.slice p.A p.n p.c]).toArray 23)).heap.size 1 (some ⟨w31.heap.size, 0, none⟩) 1 [Value.slice p.A p.n p.c]) := (Bk.new w31 _ _).sl1 rfl (by omega)
        have HTn := Lib.hid (own_keep hown hnw)
        have HBn := Lib.hid (below_then hb31 hnw)
        refine wpAnyH_ready (rs := [7]) (by kernel_rfl) (by simp) ?_
        refine AllReadyH.cons rfl (fun K hK => ?_) AllReadyH.nil
        rw [if_pos (by rfl)]
        (refine wp_bslice _ 1 _ rfl #[(0, .slice p.A p.n p.c)] (by simp [Act.eval]) _ _ (bs_p1 p.A p.n p.c _) ?_)
        refine hK.out _ _ ((HBn.out.cell (p := ⟨gl, 0, none⟩) hglw).trans HC0.out) (fun hHeld => ?_)
        clear hK K
        try simp only [Act.put, List.setIfInBounds_toArray, List.set_cons_zero, List.set_cons_succ, List.getElem_toArray, List.getElem_cons_zero, List.getElem_cons_succ]
        clear hown hg hat hb31 hnw
        obtain ⟨w32, hw32⟩ : ∃ w32, w31.alloc (.cells ([Value.slice p.A p.n p.c]).toArray 23) = w32 := ⟨_, rfl⟩
        obtain ⟨q32, hq32⟩ : ∃ q, w31.heap.size = q := ⟨_, rfl⟩
        rw [hw32] at HN32 HTn HBn hHeld ⊢
        rw [hq32] at HN32 ⊢
        clear hw32 hq32
        refine wpAnyH_ready (rs := [8]) (by kernel_rfl) (by simp) ?_
        refine AllReadyH.cons rfl (fun K hK => ?_) AllReadyH.nil
        rw [if_pos (by rfl)]
        refine wp_app _ (.tmp 58) (.tmp 62) 90 rfl wr.heap.size 23 iP (.slice none 0 0) 1 24 Try.underlying90 hPi hPz hPs hPb rfl (by decide) (.slice A31 (0 + 2) c31) (0 + 2) ([] ++ [q.v, r.v]) rfl HTn.out _ _ 1 1 [Value.slice p.A p.n p.c] rfl HN32.out (by simp [Value.oneCell']) (by unfold maxLen; omega) (by omega) HBn.out.size ?_
        intro v33 w33 hown hg hat
        obtain ⟨A33, c33, rfl⟩ := own_form hown
        have hbn : Below wr.heap.size wr w33 := grown_below HBn.out HTn.out hg (Nat.le_refl _) HBn.out.size
        have HTU33 : Hid (Sl w33 w33.heap.size 1 A33 3 ([q, r, p].map Pc.v)) := Sl.of_own hown
        refine hK.out _ _ ((hbn.cell (p := ⟨gl, 0, none⟩) hglw).trans HC0.out) (fun hHeld => ?_)
        clear hK K hown hg hat
        try simp only [Act.put, List.setIfInBounds_toArray, List.set_cons_zero, List.set_cons_succ, List.getElem_toArray, List.getElem_cons_zero, List.getElem_cons_succ]
        refine wpAnyH_take (i := 9) (v := ?_) rfl (by kernel_rfl) (by kernel_rfl) (by kernel_rfl) (fun _ _ _ h => h) (Or.inl ⟨by rfl, ?_⟩) (by assumption) ?_
        rotate_left
        · intro w hSw
          (try dsimp only at hSw)
          go_simp
          try with_reducible rfl
        try simp only [Act.put, List.setIfInBounds_toArray, List.set_cons_zero, List.set_cons_succ, List.getElem_toArray, List.getElem_cons_zero, List.getElem_cons_succ]
        refine wpAnyH_done (by kernel_rfl) ?_ _
        have HBB33 := Lib.hid (below_then HBBr.out hbn)
        have HA33 := Lib.hid (HAr.out.later hbn)
        have HB33 := Lib.hid (HBr.out.later hbn)
        have HBK33 := Lib.hid (HBKr.out.later hbn)
        have HKS33 := Lib.hid (HKSr.out.later hbn)
        have HPS33 := Lib.hid (HPSr.out.later hbn)
        have HPC33 := Lib.hid (HPCr.out.later hbn)
        have HTC33 := Lib.hid (HTCr.out.later hbn)
        clear hbn
        clear hHeld HN32 HTn HBn
        go_wp2_with fail
        refine wp_region_held_drew (S := fun w' => Bk w' w.heap.size 31 (staC n t (.slice A KA C)) ∧ Bk w' (w.heap.size + 1) 31 (staC n' t' (.slice A' KB C'))) (by kernel_rfl) ⟨Bk.drew HA33.out, Bk.drew HB33.out⟩ (fun hHeld => ?_)
        refine wpAnyH_take (i := 0) (v := .agg (List.toArray (staC n t (.slice A KA C)))) rfl (by kernel_rfl) (by kernel_rfl) (by kernel_rfl) (fun _ _ _ h => h) (yieldsIf_load_mid (by rfl) _ _ rfl _ _ rfl (staC n t (.slice A KA C)) _ (fun w hSw => (Bk.range (pre := []) (post := []) (by simpa using hSw.1) rfl)) Try.underlying31 rfl (HAZ.out)) (by assumption) ?_
        try simp only [Act.put, List.setIfInBounds_toArray, List.set_cons_zero, List.set_cons_succ, List.getElem_toArray, List.getElem_cons_zero]
        refine wpAnyH_take (i := 2) (v := .agg (List.toArray (staC n' t' (.slice A' KB C')))) rfl (by kernel_rfl) (by kernel_rfl) (by kernel_rfl) (fun _ _ _ h => h) (yieldsIf_load_mid (by rfl) _ _ rfl _ _ rfl (staC n' t' (.slice A' KB C')) _ (fun w hSw => (Bk.range (pre := []) (post := []) (by simpa using hSw.2) rfl)) Try.underlying31 rfl (HBZ.out)) (by assumption) ?_
        try simp only [Act.put, List.setIfInBounds_toArray, List.set_cons_zero, List.set_cons_succ, List.getElem_toArray, List.getElem_cons_zero, List.getElem_cons_succ]
        refine wpAnyH_ready (rs := [1]) (by kernel_rfl) (by simp) ?_
        refine AllReadyH.cons rfl (fun K hK => ?_) AllReadyH.nil
        go_simp
        (go_at_call 46; refine (HDS.out w33.drew ((HX0.out.later HBB33.out).drew)).mono ?_; rintro e w34 ⟨rfl, hbn⟩; have hbn := (below_draws w33 _ 1).trans hbn; have HBB34 := Lib.hid (below_then HBB33.out hbn); have HA34 := Lib.hid (HA33.out.later hbn); have HB34 := Lib.hid (HB33.out.later hbn); have HBK34 := Lib.hid (HBK33.out.later hbn); have HKS34 := Lib.hid (HKS33.out.later hbn); have HPS34 := Lib.hid (HPS33.out.later hbn); have HPC34 := Lib.hid (HPC33.out.later hbn); have HTU34 := Lib.hid (HTU33.out.later hbn); have HTC34 := Lib.hid (HTC33.out.later hbn); clear hbn)
        refine hK.out _ _ (⟨HA34.out, HB34.out⟩) (fun hHeld => ?_)
        clear hK K
        try simp only [Act.put, List.setIfInBounds_toArray, List.set_cons_zero, List.set_cons_succ, List.getElem_toArray, List.getElem_cons_zero, List.getElem_cons_succ]
        refine wpAnyH_ready (rs := [3]) (by kernel_rfl) (by simp) ?_
        refine AllReadyH.cons rfl (fun K hK => ?_) AllReadyH.nil
        go_simp
        (go_at_call 46; refine (HDT.out w34 (HY0.out.later HBB34.out)).mono ?_; rintro e w35 ⟨rfl, hbn⟩; have HBB35 := Lib.hid (below_then HBB34.out hbn); have HA35 := Lib.hid (HA34.out.later hbn); have HB35 := Lib.hid (HB34.out.later hbn); have HBK35 := Lib.hid (HBK34.out.later hbn); have HKS35 := Lib.hid (HKS34.out.later hbn); have HPS35 := Lib.hid (HPS34.out.later hbn); have HPC35 := Lib.hid (HPC34.out.later hbn); have HTU35 := Lib.hid (HTU34.out.later hbn); have HTC35 := Lib.hid (HTC34.out.later hbn); clear hbn)
        refine hK.out _ _ (⟨HA35.out, HB35.out⟩) (fun hHeld => ?_)
        clear hK K
        try simp only [Act.put, List.setIfInBounds_toArray, List.set_cons_zero, List.set_cons_succ, List.getElem_toArray, List.getElem_cons_zero, List.getElem_cons_succ]
        refine wpAnyH_take (i := 4) (v := ?_) rfl (by kernel_rfl) (by kernel_rfl) (by kernel_rfl) (fun _ _ _ h => h) (Or.inl ⟨by rfl, ?_⟩) (by assumption) ?_
        rotate_left
        · intro w hSw
          have hcell := heq
          clear hSw
          go_simp
          try with_reducible rfl
        try simp only [Act.put, List.setIfInBounds_toArray, List.set_cons_zero, List.set_cons_succ, List.getElem_toArray, List.getElem_cons_zero, List.getElem_cons_succ]
        refine wpAnyH_take (i := 5) (v := ?_) rfl (by kernel_rfl) (by kernel_rfl) (by kernel_rfl) (fun _ _ _ h => h) (Or.inl ⟨by rfl, ?_⟩) (by assumption) ?_
        rotate_left
        · intro w hSw
          (try dsimp only at hSw)
          go_simp
          try with_reducible rfl
        try simp only [Act.put, List.setIfInBounds_toArray, List.set_cons_zero, List.set_cons_succ, List.getElem_toArray, List.getElem_cons_zero, List.getElem_cons_succ]
        refine wpAnyH_done (by kernel_rfl) ?_ _
        clear hHeld
        go_wp2_with (first
          | ((with_reducible refine wpList_load_bkG ?_ 31 _ rfl w.heap.size rfl (staC n t (.slice A KA C)) 31 HA35.out _ Try.underlying31 rfl HAZ.out ?_); rfl))
        refine (HDS.out w35 (HX0.out.later HBB35.out)).mono ?_
        rintro e w36 ⟨rfl, hbn⟩
        have HBB36 := Lib.hid (below_then HBB35.out hbn)
        have HA36 := Lib.hid (HA35.out.later hbn)
        have HB36 := Lib.hid (HB35.out.later hbn)
        have HBK36 := Lib.hid (HBK35.out.later hbn)
        have HKS36 := Lib.hid (HKS35.out.later hbn)
        have HPS36 := Lib.hid (HPS35.out.later hbn)
        have HPC36 := Lib.hid (HPC35.out.later hbn)
        have HTU36 := Lib.hid (HTU35.out.later hbn)
        have HTC36 := Lib.hid (HTC35.out.later hbn)
        clear hbn
        go_wp2_with fail
        refine (full_any w36 lo g (entO m 3) HBK36.out hel (some ⟨gk, 0, none⟩) 3 3 keysO HKS36.out keysO_ok (by omega) (by omega) m HMO.out (some ⟨gl, 0, none⟩) cl [p, q, r] HPS36.out HPC36.out HPB.out HPN.out none 0 0 [] Sl.nil).mono ?_
        rw [HO1.out]
        rintro e w37 ⟨rfl, hbn⟩
        have HBB37 := Lib.hid (below_then HBB36.out hbn)
        have HA37 := Lib.hid (HA36.out.later hbn)
        have HB37 := Lib.hid (HB36.out.later hbn)
        have HBK37 := Lib.hid (HBK36.out.later hbn)
        have HKS37 := Lib.hid (HKS36.out.later hbn)
        have HPS37 := Lib.hid (HPS36.out.later hbn)
        have HPC37 := Lib.hid (HPC36.out.later hbn)
        have HTU37 := Lib.hid (HTU36.out.later hbn)
        have HTC37 := Lib.hid (HTC36.out.later hbn)
        clear hbn
        go_wp2_with (first
          | ((with_reducible refine wpList_load_bkG ?_ 31 _ rfl (w.heap.size + 1) rfl (staC n' t' (.slice A' KB C')) 31 HB37.out _ Try.underlying31 rfl HBZ.out ?_); rfl))
        refine (HDT.out w37 (HY0.out.later HBB37.out)).mono ?_
        rintro e w38 ⟨rfl, hbn⟩
        have HBB38 := Lib.hid (below_then HBB37.out hbn)
        have HA38 := Lib.hid (HA37.out.later hbn)
        have HB38 := Lib.hid (HB37.out.later hbn)
        have HBK38 := Lib.hid (HBK37.out.later hbn)
        have HKS38 := Lib.hid (HKS37.out.later hbn)
        have HPS38 := Lib.hid (HPS37.out.later hbn)
        have HPC38 := Lib.hid (HPC37.out.later hbn)
        have HTU38 := Lib.hid (HTU37.out.later hbn)
        have HTC38 := Lib.hid (HTC37.out.later hbn)
        clear hbn
        go_wp2_with fail
        refine (full_any w38 lo g (entO m 3) HBK38.out hel (some ⟨gk, 0, none⟩) 3 3 keysO HKS38.out keysO_ok (by omega) (by omega) m' HMO'.out (some ⟨gl, 0, none⟩) cl [p, q, r] HPS38.out HPC38.out HPB.out HPN.out none 0 0 [] Sl.nil).mono ?_
        rw [HE1.out]
        rintro e w39 ⟨rfl, hbn⟩
        have HBB39 := Lib.hid (below_then HBB38.out hbn)
        have HA39 := Lib.hid (HA38.out.later hbn)
        have HB39 := Lib.hid (HB38.out.later hbn)
        have HBK39 := Lib.hid (HBK38.out.later hbn)
        have HKS39 := Lib.hid (HKS38.out.later hbn)
        have HPS39 := Lib.hid (HPS38.out.later hbn)
        have HPC39 := Lib.hid (HPC38.out.later hbn)
        have HTU39 := Lib.hid (HTU38.out.later hbn)
        have HTC39 := Lib.hid (HTC38.out.later hbn)
        clear hbn
        have hee : (eb == eb) = true := by simp
        go_wp2_with (first
          | ((with_reducible refine wpList_load_bkG ?_ 31 _ rfl w.heap.size rfl (staC n t (.slice A KA C)) 31 HA39.out _ Try.underlying31 rfl HAZ.out ?_); rfl))
        refine (HDS.out w39 (HX0.out.later HBB39.out)).mono ?_
        rintro e w40 ⟨rfl, hbn⟩
        have HBB40 := Lib.hid (below_then HBB39.out hbn)
        have HA40 := Lib.hid (HA39.out.later hbn)
        have HB40 := Lib.hid (HB39.out.later hbn)
        have HBK40 := Lib.hid (HBK39.out.later hbn)
        have HKS40 := Lib.hid (HKS39.out.later hbn)
        have HPS40 := Lib.hid (HPS39.out.later hbn)
        have HPC40 := Lib.hid (HPC39.out.later hbn)
        have HTU40 := Lib.hid (HTU39.out.later hbn)
        have HTC40 := Lib.hid (HTC39.out.later hbn)
        clear hbn
        go_wp2_with fail
        refine (count_any w40 lo g (entO m 3) HBK40.out hel (some ⟨gk, 0, none⟩) 3 3 keysO HKS40.out keysO_ok (by omega) m HMO.out A33 3 c33 [q, r, p] HTU40.out HTC40.out HPB2.out).mono ?_
        rw [HO2.out]
        rintro e w41 ⟨rfl, hbn⟩
        have HBB41 := Lib.hid (below_then HBB40.out hbn)
        have HA41 := Lib.hid (HA40.out.later hbn)
        have HB41 := Lib.hid (HB40.out.later hbn)
        have HBK41 := Lib.hid (HBK40.out.later hbn)
        have HKS41 := Lib.hid (HKS40.out.later hbn)
        have HPS41 := Lib.hid (HPS40.out.later hbn)
        have HPC41 := Lib.hid (HPC40.out.later hbn)
        have HTU41 := Lib.hid (HTU40.out.later hbn)
        have HTC41 := Lib.hid (HTC40.out.later hbn)
        clear hbn
        go_wp2_with (first
          | ((with_reducible refine wpList_load_bkG ?_ 31 _ rfl (w.heap.size + 1) rfl (staC n' t' (.slice A' KB C')) 31 HB41.out _ Try.underlying31 rfl HBZ.out ?_); rfl))
        refine (HDT.out w41 (HY0.out.later HBB41.out)).mono ?_
        rintro e w42 ⟨rfl, hbn⟩
        have HBB42 := Lib.hid (below_then HBB41.out hbn)
        have HA42 := Lib.hid (HA41.out.later hbn)
        have HB42 := Lib.hid (HB41.out.later hbn)
        have HBK42 := Lib.hid (HBK41.out.later hbn)
        have HKS42 := Lib.hid (HKS41.out.later hbn)
        have HPS42 := Lib.hid (HPS41.out.later hbn)
        have HPC42 := Lib.hid (HPC41.out.later hbn)
        have HTU42 := Lib.hid (HTU41.out.later hbn)
        have HTC42 := Lib.hid (HTC41.out.later hbn)
        clear hbn
        go_wp2_with fail
        refine (count_any w42 lo g (entO m 3) HBK42.out hel (some ⟨gk, 0, none⟩) 3 3 keysO HKS42.out keysO_ok (by omega) m' HMO'.out (some ⟨gl, 0, none⟩) 3 cl [p, q, r] HPS42.out HPC42.out HPB.out).mono ?_
        rw [HC3.out]
        rintro e w43 ⟨rfl, hbn⟩
        have HBB43 := Lib.hid (below_then HBB42.out hbn)
        clear hbn
        go_wp2_with fail
        go_ret
        exact ⟨rfl, HBB43.out⟩
      · rw [if_pos (by rfl)]
        refine wp_bslice _ 1 _ rfl #[(0, .slice p.A p.n p.c)] (by simp [Act.eval]) _ _ (bs_p1 p.A p.n p.c _) ?_
        obtain ⟨w31, hw31⟩ : ∃ w31, wr.drew.alloc (.cells ([Value.slice p.A p.n p.c]).toArray 23) = w31 := ⟨_, rfl⟩
        obtain ⟨q32, hq32⟩ : ∃ q, wr.drew.heap.size = q := ⟨_, rfl⟩
        have hb31 : Below wr.heap.size wr w31 := hw31 ▸ (below_draws wr _ 1).trans (below_new wr.drew _)
        have hk31 : Bk w31 q32 23 [Value.slice p.A p.n p.c] := by rw [← hw31, ← hq32]; exact Bk.new wr.drew _ _
        rw [hw31, hq32]
        refine hK.out _ _ ((hb31.cell (p := ⟨gl, 0, none⟩) hglw).trans HC0.out) (fun hHeld => ?_)
        clear hK K
        try simp only [Act.put, List.setIfInBounds_toArray, List.set_cons_zero, List.set_cons_succ, List.getElem_toArray, List.getElem_cons_zero, List.getElem_cons_succ]
        refine wpAnyH_ready (rs := [3]) (by kernel_rfl) (by simp) ?_
        refine AllReadyH.cons rfl (fun K hK => ?_) AllReadyH.nil
        rw [if_pos (by rfl)]
        refine wp_app _ (.tmp 55) (.tmp 57) 90 rfl wr.heap.size 23 iP (.slice none 0 0) 1 24 Try.underlying90 hPi hPz hPs hPb rfl (by decide) (.slice none 0 0) 0 [] rfl (World.ownsRow_nil _ _ _ _) _ _ 2 (cl - 1) [q.v, r.v] rfl (HT0.out.later hb31) (pcs_one [q, r]) (by unfold maxLen; omega) (by omega) hb31.size ?_
        intro v32 w32 hown hg hat
        obtain ⟨A31, c31, rfl⟩ := own_form hown
        have HBn := Lib.hid (grown_below hb31 (World.ownsRow_nil w31 wr.heap.size 23 1) hg (Nat.le_refl _) hb31.size)
        have HTn := Lib.hid hown
        have HN32 : Hid (Sl w32 w32.heap.size 1 (some ⟨q32, 0, none⟩) 1 [Value.slice p.A p.n p.c]) := (hk31.grown hg (by simp [Value.ownBlock])).sl1 rfl (by omega)
        refine hK.out _ _ ((HBn.out.cell (p := ⟨gl, 0, none⟩) hglw).trans HC0.out) (fun hHeld => ?_)
        clear hK K hown hg hat hb31 hk31 hw31 hq32
        try simp only [Act.put, List.setIfInBounds_toArray, List.set_cons_zero, List.set_cons_succ, List.getElem_toArray, List.getElem_cons_zero, List.getElem_cons_succ]
        refine wpAnyH_ready (rs := [8]) (by kernel_rfl) (by simp) ?_
        refine AllReadyH.cons rfl (fun K hK => ?_) AllReadyH.nil
        rw [if_pos (by rfl)]
        refine wp_app _ (.tmp 58) (.tmp 62) 90 rfl wr.heap.size 23 iP (.slice none 0 0) 1 24 Try.underlying90 hPi hPz hPs hPb rfl (by decide) (.slice A31 (0 + 2) c31) (0 + 2) ([] ++ [q.v, r.v]) rfl HTn.out _ _ 1 1 [Value.slice p.A p.n p.c] rfl HN32.out (by simp [Value.oneCell']) (by unfold maxLen; omega) (by omega) HBn.out.size ?_
        intro v33 w33 hown hg hat
        obtain ⟨A33, c33, rfl⟩ := own_form hown
        have hbn : Below wr.heap.size wr w33 := grown_below HBn.out HTn.out hg (Nat.le_refl _) HBn.out.size
        have HTU33 : Hid (Sl w33 w33.heap.size 1 A33 3 ([q, r, p].map Pc.v)) := Sl.of_own hown
        refine hK.out _ _ ((hbn.cell (p := ⟨gl, 0, none⟩) hglw).trans HC0.out) (fun hHeld => ?_)
        clear hK K hown hg hat
        try simp only [Act.put, List.setIfInBounds_toArray, List.set_cons_zero, List.set_cons_succ, List.getElem_toArray, List.getElem_cons_zero, List.getElem_cons_succ]
        refine wpAnyH_take (i := 9) (v := ?_) rfl (by kernel_rfl) (by kernel_rfl) (by kernel_rfl) (fun _ _ _ h => h) (Or.inl ⟨by rfl, ?_⟩) (by assumption) ?_
        rotate_left
        · intro w hSw
          (try dsimp only at hSw)
          go_simp
          try with_reducible rfl
        try simp only [Act.put, List.setIfInBounds_toArray, List.set_cons_zero, List.set_cons_succ, List.getElem_toArray, List.getElem_cons_zero, List.getElem_cons_succ]
        refine wpAnyH_done (by kernel_rfl) ?_ _
        have HBB33 := Lib.hid (below_then HBBr.out hbn)
        have HA33 := Lib.hid (HAr.out.later hbn)
        have HB33 := Lib.hid (HBr.out.later hbn)
        have HBK33 := Lib.hid (HBKr.out.later hbn)
        have HKS33 := Lib.hid (HKSr.out.later hbn)
        have HPS33 := Lib.hid (HPSr.out.later hbn)
        have HPC33 := Lib.hid (HPCr.out.later hbn)
        have HTC33 := Lib.hid (HTCr.out.later hbn)
        clear hbn
        clear hHeld HN32 HTn HBn
        go_wp2_with fail
        refine wp_region_held_drew (S := fun w' => Bk w' w.heap.size 31 (staC n t (.slice A KA C)) ∧ Bk w' (w.heap.size + 1) 31 (staC n' t' (.slice A' KB C'))) (by kernel_rfl) ⟨Bk.drew HA33.out, Bk.drew HB33.out⟩ (fun hHeld => ?_)
        refine wpAnyH_take (i := 0) (v := .agg (List.toArray (staC n t (.slice A KA C)))) rfl (by kernel_rfl) (by kernel_rfl) (by kernel_rfl) (fun _ _ _ h => h) (yieldsIf_load_mid (by rfl) _ _ rfl _ _ rfl (staC n t (.slice A KA C)) _ (fun w hSw => (Bk.range (pre := []) (post := []) (by simpa using hSw.1) rfl)) Try.underlying31 rfl (HAZ.out)) (by assumption) ?_
        try simp only [Act.put, List.setIfInBounds_toArray, List.set_cons_zero, List.set_cons_succ, List.getElem_toArray, List.getElem_cons_zero]
        refine wpAnyH_take (i := 2) (v := .agg (List.toArray (staC n' t' (.slice A' KB C')))) rfl (by kernel_rfl) (by kernel_rfl) (by kernel_rfl) (fun _ _ _ h => h) (yieldsIf_load_mid (by rfl) _ _ rfl _ _ rfl (staC n' t' (.slice A' KB C')) _ (fun w hSw => (Bk.range (pre := []) (post := []) (by simpa using hSw.2) rfl)) Try.underlying31 rfl (HBZ.out)) (by assumption) ?_
        try simp only [Act.put, List.setIfInBounds_toArray, List.set_cons_zero, List.set_cons_succ, List.getElem_toArray, List.getElem_cons_zero, List.getElem_cons_succ]
        refine wpAnyH_ready (rs := [1]) (by kernel_rfl) (by simp) ?_
        refine AllReadyH.cons rfl (fun K hK => ?_) AllReadyH.nil
        go_simp
        (go_at_call 46; refine (HDS.out w33.drew ((HX0.out.later HBB33.out).drew)).mono ?_; rintro e w34 ⟨rfl, hbn⟩; have hbn := (below_draws w33 _ 1).trans hbn; have HBB34 := Lib.hid (below_then HBB33.out hbn); have HA34 := Lib.hid (HA33.out.later hbn); have HB34 := Lib.hid (HB33.out.later hbn); have HBK34 := Lib.hid (HBK33.out.later hbn); have HKS34 := Lib.hid (HKS33.out.later hbn); have HPS34 := Lib.hid (HPS33.out.later hbn); have HPC34 := Lib.hid (HPC33.out.later hbn); have HTU34 := Lib.hid (HTU33.out.later hbn); have HTC34 := Lib.hid (HTC33.out.later hbn); clear hbn)
        refine hK.out _ _ (⟨HA34.out, HB34.out⟩) (fun hHeld => ?_)
        clear hK K
        try simp only [Act.put, List.setIfInBounds_toArray, List.set_cons_zero, List.set_cons_succ, List.getElem_toArray, List.getElem_cons_zero, List.getElem_cons_succ]
        refine wpAnyH_ready (rs := [3]) (by kernel_rfl) (by simp) ?_
        refine AllReadyH.cons rfl (fun K hK => ?_) AllReadyH.nil
        go_simp
        (go_at_call 46; refine (HDT.out w34 (HY0.out.later HBB34.out)).mono ?_; rintro e w35 ⟨rfl, hbn⟩; have HBB35 := Lib.hid (below_then HBB34.out hbn); have HA35 := Lib.hid (HA34.out.later hbn); have HB35 := Lib.hid (HB34.out.later hbn); have HBK35 := Lib.hid (HBK34.out.later hbn); have HKS35 := Lib.hid (HKS34.out.later hbn); have HPS35 := Lib.hid (HPS34.out.later hbn); have HPC35 := Lib.hid (HPC34.out.later hbn); have HTU35 := Lib.hid (HTU34.out.later hbn); have HTC35 := Lib.hid (HTC34.out.later hbn); clear hbn)
        refine hK.out _ _ (⟨HA35.out, HB35.out⟩) (fun hHeld => ?_)
        clear hK K
        try simp only [Act.put, List.setIfInBounds_toArray, List.set_cons_zero, List.set_cons_succ, List.getElem_toArray, List.getElem_cons_zero, List.getElem_cons_succ]
        refine wpAnyH_take (i := 4) (v := ?_) rfl (by kernel_rfl) (by kernel_rfl) (by kernel_rfl) (fun _ _ _ h => h) (Or.inl ⟨by rfl, ?_⟩) (by assumption) ?_
        rotate_left
        · intro w hSw
          have hcell := heq
          clear hSw
          go_simp
          try with_reducible rfl
        try simp only [Act.put, List.setIfInBounds_toArray, List.set_cons_zero, List.set_cons_succ, List.getElem_toArray, List.getElem_cons_zero, List.getElem_cons_succ]
        refine wpAnyH_take (i := 5) (v := ?_) rfl (by kernel_rfl) (by kernel_rfl) (by kernel_rfl) (fun _ _ _ h => h) (Or.inl ⟨by rfl, ?_⟩) (by assumption) ?_
        rotate_left
        · intro w hSw
          (try dsimp only at hSw)
          go_simp
          try with_reducible rfl
        try simp only [Act.put, List.setIfInBounds_toArray, List.set_cons_zero, List.set_cons_succ, List.getElem_toArray, List.getElem_cons_zero, List.getElem_cons_succ]
        refine wpAnyH_done (by kernel_rfl) ?_ _
        clear hHeld
        go_wp2_with (first
          | ((with_reducible refine wpList_load_bkG ?_ 31 _ rfl w.heap.size rfl (staC n t (.slice A KA C)) 31 HA35.out _ Try.underlying31 rfl HAZ.out ?_); rfl))
        refine (HDS.out w35 (HX0.out.later HBB35.out)).mono ?_
        rintro e w36 ⟨rfl, hbn⟩
        have HBB36 := Lib.hid (below_then HBB35.out hbn)
        have HA36 := Lib.hid (HA35.out.later hbn)
        have HB36 := Lib.hid (HB35.out.later hbn)
        have HBK36 := Lib.hid (HBK35.out.later hbn)
        have HKS36 := Lib.hid (HKS35.out.later hbn)
        have HPS36 := Lib.hid (HPS35.out.later hbn)
        have HPC36 := Lib.hid (HPC35.out.later hbn)
        have HTU36 := Lib.hid (HTU35.out.later hbn)
        have HTC36 := Lib.hid (HTC35.out.later hbn)
        clear hbn
        go_wp2_with fail
        refine (full_any w36 lo g (entO m 3) HBK36.out hel (some ⟨gk, 0, none⟩) 3 3 keysO HKS36.out keysO_ok (by omega) (by omega) m HMO.out (some ⟨gl, 0, none⟩) cl [p, q, r] HPS36.out HPC36.out HPB.out HPN.out none 0 0 [] Sl.nil).mono ?_
        rw [HO1.out]
        rintro e w37 ⟨rfl, hbn⟩
        have HBB37 := Lib.hid (below_then HBB36.out hbn)
        have HA37 := Lib.hid (HA36.out.later hbn)
        have HB37 := Lib.hid (HB36.out.later hbn)
        have HBK37 := Lib.hid (HBK36.out.later hbn)
        have HKS37 := Lib.hid (HKS36.out.later hbn)
        have HPS37 := Lib.hid (HPS36.out.later hbn)
        have HPC37 := Lib.hid (HPC36.out.later hbn)
        have HTU37 := Lib.hid (HTU36.out.later hbn)
        have HTC37 := Lib.hid (HTC36.out.later hbn)
        clear hbn
        go_wp2_with (first
          | ((with_reducible refine wpList_load_bkG ?_ 31 _ rfl (w.heap.size + 1) rfl (staC n' t' (.slice A' KB C')) 31 HB37.out _ Try.underlying31 rfl HBZ.out ?_); rfl))
        refine (HDT.out w37 (HY0.out.later HBB37.out)).mono ?_
        rintro e w38 ⟨rfl, hbn⟩
        have HBB38 := Lib.hid (below_then HBB37.out hbn)
        have HA38 := Lib.hid (HA37.out.later hbn)
        have HB38 := Lib.hid (HB37.out.later hbn)
        have HBK38 := Lib.hid (HBK37.out.later hbn)
        have HKS38 := Lib.hid (HKS37.out.later hbn)
        have HPS38 := Lib.hid (HPS37.out.later hbn)
        have HPC38 := Lib.hid (HPC37.out.later hbn)
        have HTU38 := Lib.hid (HTU37.out.later hbn)
        have HTC38 := Lib.hid (HTC37.out.later hbn)
        clear hbn
        go_wp2_with fail
        refine (full_any w38 lo g (entO m 3) HBK38.out hel (some ⟨gk, 0, none⟩) 3 3 keysO HKS38.out keysO_ok (by omega) (by omega) m' HMO'.out (some ⟨gl, 0, none⟩) cl [p, q, r] HPS38.out HPC38.out HPB.out HPN.out none 0 0 [] Sl.nil).mono ?_
        rw [HE1.out]
        rintro e w39 ⟨rfl, hbn⟩
        have HBB39 := Lib.hid (below_then HBB38.out hbn)
        have HA39 := Lib.hid (HA38.out.later hbn)
        have HB39 := Lib.hid (HB38.out.later hbn)
        have HBK39 := Lib.hid (HBK38.out.later hbn)
        have HKS39 := Lib.hid (HKS38.out.later hbn)
        have HPS39 := Lib.hid (HPS38.out.later hbn)
        have HPC39 := Lib.hid (HPC38.out.later hbn)
        have HTU39 := Lib.hid (HTU38.out.later hbn)
        have HTC39 := Lib.hid (HTC38.out.later hbn)
        clear hbn
        have hee : (eb == eb) = true := by simp
        go_wp2_with (first
          | ((with_reducible refine wpList_load_bkG ?_ 31 _ rfl w.heap.size rfl (staC n t (.slice A KA C)) 31 HA39.out _ Try.underlying31 rfl HAZ.out ?_); rfl))
        refine (HDS.out w39 (HX0.out.later HBB39.out)).mono ?_
        rintro e w40 ⟨rfl, hbn⟩
        have HBB40 := Lib.hid (below_then HBB39.out hbn)
        have HA40 := Lib.hid (HA39.out.later hbn)
        have HB40 := Lib.hid (HB39.out.later hbn)
        have HBK40 := Lib.hid (HBK39.out.later hbn)
        have HKS40 := Lib.hid (HKS39.out.later hbn)
        have HPS40 := Lib.hid (HPS39.out.later hbn)
        have HPC40 := Lib.hid (HPC39.out.later hbn)
        have HTU40 := Lib.hid (HTU39.out.later hbn)
        have HTC40 := Lib.hid (HTC39.out.later hbn)
        clear hbn
        go_wp2_with fail
        refine (count_any w40 lo g (entO m 3) HBK40.out hel (some ⟨gk, 0, none⟩) 3 3 keysO HKS40.out keysO_ok (by omega) m HMO.out A33 3 c33 [q, r, p] HTU40.out HTC40.out HPB2.out).mono ?_
        rw [HO2.out]
        rintro e w41 ⟨rfl, hbn⟩
        have HBB41 := Lib.hid (below_then HBB40.out hbn)
        have HA41 := Lib.hid (HA40.out.later hbn)
        have HB41 := Lib.hid (HB40.out.later hbn)
        have HBK41 := Lib.hid (HBK40.out.later hbn)
        have HKS41 := Lib.hid (HKS40.out.later hbn)
        have HPS41 := Lib.hid (HPS40.out.later hbn)
        have HPC41 := Lib.hid (HPC40.out.later hbn)
        have HTU41 := Lib.hid (HTU40.out.later hbn)
        have HTC41 := Lib.hid (HTC40.out.later hbn)
        clear hbn
        go_wp2_with (first
          | ((with_reducible refine wpList_load_bkG ?_ 31 _ rfl (w.heap.size + 1) rfl (staC n' t' (.slice A' KB C')) 31 HB41.out _ Try.underlying31 rfl HBZ.out ?_); rfl))
        refine (HDT.out w41 (HY0.out.later HBB41.out)).mono ?_
        rintro e w42 ⟨rfl, hbn⟩
        have HBB42 := Lib.hid (below_then HBB41.out hbn)
        have HA42 := Lib.hid (HA41.out.later hbn)
        have HB42 := Lib.hid (HB41.out.later hbn)
        have HBK42 := Lib.hid (HBK41.out.later hbn)
        have HKS42 := Lib.hid (HKS41.out.later hbn)
        have HPS42 := Lib.hid (HPS41.out.later hbn)
        have HPC42 := Lib.hid (HPC41.out.later hbn)
        have HTU42 := Lib.hid (HTU41.out.later hbn)
        have HTC42 := Lib.hid (HTC41.out.later hbn)
        clear hbn
        go_wp2_with fail
        refine (count_any w42 lo g (entO m 3) HBK42.out hel (some ⟨gk, 0, none⟩) 3 3 keysO HKS42.out keysO_ok (by omega) m' HMO'.out (some ⟨gl, 0, none⟩) 3 cl [p, q, r] HPS42.out HPC42.out HPB.out).mono ?_
        rw [HC3.out]
        rintro e w43 ⟨rfl, hbn⟩
        have HBB43 := Lib.hid (below_then HBB42.out hbn)
        clear hbn
        go_wp2_with fail
        go_ret
        exact ⟨rfl, HBB43.out⟩
end Go.Proofs.Ythibihjblodfmaa
