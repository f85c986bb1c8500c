/- Of all two it is told what they come to together: the walk of StateJoins. -/
import Derived.Test.YthibihjblodfmaaS19
namespace Go.Proofs.Ythibihjblodfmaa
open Go.RowKit Go.Maps

theorem fewQ_same {rs : List Pc} (hl : rs.length ≤ 12) (h : ∀ p ∈ rs, p.bs.length = p.n ∧ p.n ≤ 5000) : bsP (fewQ rs) = bsP rs := by
  unfold bsP fewQ
  rw [List.take_of_length_le hl, List.map_map]
  refine List.map_congr_left fun p hp => ?_
  obtain ⟨h1, h2⟩ := h p hp
  show p.bs.take (min p.n 5000) = p.bs
  rw [Nat.min_eq_left h2, List.take_of_length_le (by omega)]
theorem zip_mem {xs ys : List (List Int)} {b : List Int} (h : b ∈ List.zipWith pickL xs ys) : b ∈ xs ∨ b ∈ ys := by
  obtain ⟨i, hi, e⟩ := List.mem_iff_getElem.1 h
  rw [List.getElem_zipWith] at e
  unfold pickL at e
  split at e
  · exact .inr (e ▸ List.getElem_mem _)
  · exact .inl (e ▸ List.getElem_mem _)
/-- What is small stays so. -/
structure Small (ps : List Int) (L : List (List Int)) : Prop where
  p : ps.length ≤ 5000
  l : L.length ≤ 12
  b : ∀ x ∈ L, x.length ≤ 5000
theorem joinR_small {t t' : List Int} {n n' : Int} {ps ps' : List Int} {L L' : List (List Int)} (h : Small ps L) (h' : Small ps' L') : Small (joinR t t' n n' ps ps' L L').ps (joinR t t' n n' ps ps' L L').L := by
  unfold joinR
  split
  · split
    · refine ⟨h.p, by have := h.l; simp; omega, fun x hx => ?_⟩
      rcases zip_mem hx with hx | hx
      · exact h.b x hx
      · exact h'.b x hx
    · exact ⟨by simp, by simp, by simp⟩
  · exact ⟨by simp, by simp, by simp⟩
theorem joinR_by {t t' : List Int} {n n' : Int} {ps ps' : List Int} {L L' : List (List Int)} (ht : DgOk t) (h : ByOk ps) (hL : ∀ b ∈ L, ByOk b) (hL' : ∀ b ∈ L', ByOk b) : DgOk (joinR t t' n n' ps ps' L L').t ∧ ByOk (joinR t t' n n' ps ps' L L').ps ∧ ∀ b ∈ (joinR t t' n n' ps ps' L L').L, ByOk b := by
  unfold joinR
  split
  · split
    · refine ⟨ht, h, fun x hx => ?_⟩
      rcases zip_mem hx with hx | hx
      · exact hL x hx
      · exact hL' x hx
    · exact ⟨zero_ok, fun b hb => by simp at hb, fun b hb => by simp at hb⟩
  · exact ⟨zero_ok, fun b hb => by simp at hb, fun b hb => by simp at hb⟩
theorem sameG_self (t : List Int) (n : Int) (ps : List Int) (L : List (List Int)) : sameG t t n n ps ps L L = true := by simp [sameG, sameS, eqL]
theorem small_few {w : World} {A : Option Addr} {N : Nat} {ps : List Int} {qs : List Pc} (_hs : Sl w w.heap.size 1 A N (ps.map (.int .u8))) (hp : PcsOk w qs) : Small (ps.take (min N 5000)) (bsP (fewQ qs)) := by
  refine ⟨by rw [List.length_take]; omega, by rw [bsP_len, few_len]; omega, fun x hx => ?_⟩
  obtain ⟨p, hp', rfl⟩ := List.mem_map.1 hx
  have h1 := (hp.few p hp').length
  have h2 := few_n p hp'
  omega
set_option maxRecDepth 20000 in
set_option maxHeartbeats 8000000 in
theorem joins_any (w : World) (t t' : List Int) (ht : DgOk t) (ht' : DgOk t') (n n' : Int) (A A' B B' : Option Addr) (N C N' C' M D M' D' : Nat) (ps ps' : List Int) (qs qs' : List Pc) (same : Bool) (hNC : N ≤ C) (hNC' : N' ≤ C')
    (hs : Sl w w.heap.size 1 A N (ps.map (.int .u8))) (hs' : Sl w w.heap.size 1 A' N' (ps'.map (.int .u8))) (hbo : ByOk ps) (hbo' : ByOk ps') (hq : Sl w w.heap.size 1 B M (qs.map Pc.v)) (hq' : Sl w w.heap.size 1 B' M' (qs'.map Pc.v)) (hp : PcsOk w qs) (hp' : PcsOk w qs') (hqb : PcsBy qs) (hqb' : PcsBy qs') (hqc : PcsCap qs) (hqc' : PcsCap qs') :
    Calls Try.prog 12 #[.agg (sgC n t (.slice A N C) (.slice B M D)).toArray, .agg (sgC n' t' (.slice A' N' C') (.slice B' M' D')).toArray, .bool same] w fun e w' => e = .returned (.bool true) ∧ Below w.heap.size w w' := by
  obtain ⟨X, hX⟩ : ∃ X, (sgC n t (.slice A N C) (.slice B M D)).toArray = X := ⟨_, rfl⟩
  obtain ⟨Y, hY⟩ : ∃ Y, (sgC n' t' (.slice A' N' C') (.slice B' M' D')).toArray = Y := ⟨_, rfl⟩
  obtain ⟨w1, hw1⟩ : ∃ w1, (w.alloc (.cells X 101)).alloc (.cells Y 101) = w1 := ⟨_, rfl⟩
  have hb1 : Below w.heap.size w w1 := hw1 ▸ (below_new w _).alloc (by simp) _
  have kx : Bk w1 w.heap.size 101 (sgC n t (.slice A N C) (.slice B M D)) := hw1 ▸ (Bk.new' w _ X (by rw [← hX])).alloc _
  have ky : Bk w1 (w.heap.size + 1) 101 (sgC n' t' (.slice A' N' C') (.slice B' M' D')) := hw1 ▸ Bk.at_ _ _ Y (by simp) (by rw [← hY])
  have HW := Lib.hid hw1; have HBB1 := Lib.hid hb1; have HA1 := Lib.hid kx; have HB1 := Lib.hid ky; have HTO := Lib.hid ht; have HTO' := Lib.hid ht'
  have HS0 := Lib.hid hs; have HS0' := Lib.hid hs'; have HQ0 := Lib.hid hq; have HQ0' := Lib.hid hq'; have HP0 := Lib.hid hp; have HP0' := Lib.hid hp'; have HBO := Lib.hid hbo; have HBO' := Lib.hid hbo'; have HQB := Lib.hid hqb; have HQB' := Lib.hid hqb'; have HQC := Lib.hid hqc; have HQC' := Lib.hid hqc'
  have HTZ : Hid ((Try.prog.info? 31).map (·.size) = some (staC n t (.slice A N C)).length) := by show _ = _; rw [staC_len ht]; exact st_size
  have hrS := (sg_mem ht HA1.out).rS
  rw [hX, hY]
  clear hX hY hw1 hb1 kx ky hs hs' hq hq' hp hp' hbo hbo' hqb hqb' hqc hqc' ht ht'
  go_enter Try.func12, Try.ntmps12
  go_upto_region 1 with fail
  rw [HW.out]
  cases same
  · have HBB2 := HBB1; have HA2 := HA1; have HB2 := HB1; have HS0u := HS0'; have HUO := HTO'; have hNCu := hNC'; have HBOu := HBO'
    obtain ⟨w2, hw2⟩ : ∃ w2, w1 = w2 := ⟨_, rfl⟩
    rw [hw2] at HBB2 HA2 HB2 ⊢
    clear hw2 hrS HTZ
    obtain ⟨tb, htb⟩ : ∃ x, t' = x := ⟨_, rfl⟩
    obtain ⟨nb, hnb⟩ : ∃ x, n' = x := ⟨_, rfl⟩
    obtain ⟨Ab, hAb⟩ : ∃ x, A' = x := ⟨_, rfl⟩
    obtain ⟨Nb, hNb⟩ : ∃ x, N' = x := ⟨_, rfl⟩
    obtain ⟨Cb, hCb⟩ : ∃ x, C' = x := ⟨_, rfl⟩
    obtain ⟨pb, hpb⟩ : ∃ x, ps' = x := ⟨_, rfl⟩
    subst htb hnb hAb hNb hCb hpb
    have hsX := small_few HS0.out HP0.out
    have hsY := small_few HS0u.out HP0'.out
    have HXX := Lib.hid (HS0.out.head1 (k := min N 5000) (Nat.min_le_left _ _)); have HYY := Lib.hid (HS0u.out.head1 (k := min N' 5000) (Nat.min_le_left _ _))
    have HXB : Hid (ByOk (ps.take (min N 5000))) := HBO.out.take _
    have HYB : Hid (ByOk (ps'.take (min N' 5000))) := HBOu.out.take _
    have HPL1 := Lib.hid (fun w' h => plain_any w' t HTO.out n A B N C M D hNC qs h HQC.out)
    have HPL2 := Lib.hid (fun w' h => plain_any w' t' HUO.out n' A' B' N' C' M' D' hNCu qs' h HQC'.out)
    unfold RetPl at HPL1 HPL2
    obtain ⟨KA, hKA⟩ : ∃ K, min N 5000 = K := ⟨_, rfl⟩
    obtain ⟨KB, hKB⟩ : ∃ K, min N' 5000 = K := ⟨_, rfl⟩
    obtain ⟨qx, hqx⟩ : ∃ K, min qs.length 12 = K := ⟨_, rfl⟩
    obtain ⟨qy, hqy⟩ : ∃ K, min qs'.length 12 = K := ⟨_, rfl⟩
    rw [hKA] at HXX HXB HPL1 hsX
    rw [hKB] at HYY HYB HPL2 hsY
    rw [hqx] at HPL1
    rw [hqy] at HPL2
    have hKA5 : KA ≤ 5000 := by omega
    have hKB5 : KB ≤ 5000 := by omega
    have hqx12 : qx ≤ 12 := by omega
    have hqy12 : qy ≤ 12 := by omega
    obtain ⟨xs, hxs⟩ : ∃ x, ps.take KA = x := ⟨_, rfl⟩
    obtain ⟨ys, hys⟩ : ∃ x, ps'.take KB = x := ⟨_, rfl⟩
    rw [hxs] at HXX HXB hsX
    rw [hys] at HYY HYB hsY
    have HJS := Lib.hid (joinR_small (t := t) (t' := t') (n := n) (n' := n') hsX hsY)
    have HJB := Lib.hid (joinR_by (t' := t') (n := n) (n' := n') (ps' := ys) HTO.out HXB.out HQB.out.few.all HQB'.out.few.all)
    have HJ1 := Lib.hid (fun w' C1 C2 Q Q' c c' h1 h2 h3 h4 h5 h6 => join2_any w' t t' HTO.out HUO.out n n' A A' Q Q' KA C1 KB C2 qx c qy c' xs ys (fewQ qs) (fewQ qs') h1 h2 HXB.out HYB.out h3 h4 h5 h6 (by omega) (by omega) (fun p hp => by have := few_n p hp; omega) (fun p hp => by have := few_n p hp; omega))
    have HJ2 := Lib.hid (fun w' C1 C2 Q Q' c c' h1 h2 h3 h4 h5 h6 => rjoin_any w' t t' HTO.out HUO.out n n' A A' Q Q' KA C1 KB C2 qx c qy c' xs ys (fewQ qs) (fewQ qs') h1 h2 HXB.out HYB.out h3 h4 h5 h6 (by omega))
    obtain ⟨J, hJ⟩ : ∃ J, joinR t t' n n' xs ys (bsP (fewQ qs)) (bsP (fewQ qs')) = J := ⟨_, rfl⟩
    rw [hJ] at HJS HJB HJ1 HJ2
    have HPX0 := Lib.hid HP0.out.few; have HPY0 := Lib.hid HP0'.out.few; have HPXB := Lib.hid HQB.out.few; have HPYB := Lib.hid HQB'.out.few
    have HJT : Hid (DgOk J.t) := HJB.out.1
    clear hsX hsY hKA hKB hqx hqy hxs hys hJ
    go_wp2_with (with_reducible refine wpList_load_bk rfl 101 _ rfl w.heap.size rfl (sgC n t (.slice A N C) (.slice B M D)) 101 HA2.out _ Try.underlying101 rfl (sg_info HTO.out) ?_)
    refine (HPL1.out w2 (HQ0.out.later HBB2.out)).mono ?_
    rintro e w3 ⟨Qx, cx, rfl, hown, hbn⟩
    have HX3 := Lib.hid (Sl.of_own hown)
    clear hown
    have HBB3 := Lib.hid (below_then HBB2.out hbn)
    have HB3 := Lib.hid (HB2.out.later hbn)
    clear hbn
    go_wp2_with (with_reducible refine stop_store 101 _ _ rfl ?_)
    refine StopD.go ?_
    obtain ⟨g7, hg⟩ : ∃ g, w3.heap.size = g := ⟨_, rfl⟩
    have hbn : Below w3.heap.size w3 ((w3.alloc (.cells #[.int .u8 0, .int .u8 0, .int .u8 0, .int .u8 0, .int .u8 0, .int .u8 0, .int .u8 0, .int .u8 0, .int .i64 0, .slice none 0 0, .slice none 0 0] 101)).alloc (.cells #[.int .u8 0, .int .u8 0, .int .u8 0, .int .u8 0, .int .u8 0, .int .u8 0, .int .u8 0, .int .u8 0, .int .i64 0, .slice none 0 0, .slice none 0 0] 105)) := (below_new w3 _).alloc (by simp) _
    have kt : Bk ((w3.alloc (.cells #[.int .u8 0, .int .u8 0, .int .u8 0, .int .u8 0, .int .u8 0, .int .u8 0, .int .u8 0, .int .u8 0, .int .i64 0, .slice none 0 0, .slice none 0 0] 101)).alloc (.cells #[.int .u8 0, .int .u8 0, .int .u8 0, .int .u8 0, .int .u8 0, .int .u8 0, .int .u8 0, .int .u8 0, .int .i64 0, .slice none 0 0, .slice none 0 0] 105)) g7 101 ([] ++ (sgC 0 zeroD (.slice none 0 0) (.slice none 0 0) ++ [])) := by rw [← hg]; exact (Bk.new' w3 _ #[.int .u8 0, .int .u8 0, .int .u8 0, .int .u8 0, .int .u8 0, .int .u8 0, .int .u8 0, .int .u8 0, .int .i64 0, .slice none 0 0, .slice none 0 0] rfl).alloc _
    have ku : Bk ((w3.alloc (.cells #[.int .u8 0, .int .u8 0, .int .u8 0, .int .u8 0, .int .u8 0, .int .u8 0, .int .u8 0, .int .u8 0, .int .i64 0, .slice none 0 0, .slice none 0 0] 101)).alloc (.cells #[.int .u8 0, .int .u8 0, .int .u8 0, .int .u8 0, .int .u8 0, .int .u8 0, .int .u8 0, .int .u8 0, .int .i64 0, .slice none 0 0, .slice none 0 0] 105)) (g7 + 1) 105 (sgC 0 zeroD (.slice none 0 0) (.slice none 0 0)) := by rw [← hg]; exact Bk.at_ _ _ _ (by simp) rfl
    rw [hg]
    refine wpList_store_part rfl 101 _ _ rfl g7 0 (.agg (sgC n t (.slice A KA C) (.slice Qx qx cx)).toArray) (sgC n t (.slice A KA C) (.slice Qx qx cx)) rfl rfl rfl 101 [] _ [] kt rfl (by rw [sgC_len HTO.out]; rfl) (sg_info HTO.out) sg_one ?_
    intro wq hp
    have hbn : Below w3.heap.size w3 wq := hbn.grown hp.only hbn.size (fun q hq => by injection hq with hq; omega)
    have kt : Bk wq g7 101 (sgC n t (.slice A KA C) (.slice Qx qx cx)) := by have := hp.bk; simpa using this
    have ku : Bk wq (g7 + 1) 105 ([] ++ (sgC 0 zeroD (.slice none 0 0) (.slice none 0 0) ++ [])) := by have := ku.grown hp.only (by intro h; injection h with h; omega); simpa using this
    clear hp
    go_wp2_with (with_reducible refine stop_store 105 _ _ rfl ?_)
    refine StopD.go ?_
    refine wpList_store_part rfl 105 _ _ rfl (g7 + 1) 0 (.agg (sgC n t (.slice A KA C) (.slice Qx qx cx)).toArray) (sgC n t (.slice A KA C) (.slice Qx qx cx)) rfl rfl rfl 105 [] _ [] ku rfl (by rw [sgC_len HTO.out]; rfl) (rsg_info HTO.out) sg_one ?_
    intro w4 hp
    have hbn : Below w3.heap.size w3 w4 := hbn.grown hp.only hbn.size (fun q hq => by injection hq with hq; omega)
    have HC4 : Hid (Bk w4 g7 101 (sgC n t (.slice A KA C) (.slice Qx qx cx))) := kt.grown hp.only (by intro h; injection h with h; omega)
    have HD4 : Hid (Bk w4 (g7 + 1) 105 (sgC n t (.slice A KA C) (.slice Qx qx cx))) := by show Bk _ _ _ _; have := hp.bk; simpa using this
    clear hp kt ku hg
    have HBB4 := Lib.hid (below_then HBB3.out hbn)
    have HB4 := Lib.hid (HB3.out.later hbn)
    have HX4 := Lib.hid (HX3.out.later hbn)
    clear hbn
    go_wp2_with (with_reducible refine wpList_load_bk rfl 101 _ rfl (w.heap.size + 1) rfl (sgC n' t' (.slice A' N' C') (.slice B' M' D')) 101 HB4.out _ Try.underlying101 rfl (sg_info HUO.out) ?_)
    refine (HPL2.out w4 (HQ0'.out.later HBB4.out)).mono ?_
    rintro e w5 ⟨Qy, cy, rfl, hown, hbn⟩
    have HY5 := Lib.hid (Sl.of_own hown)
    clear hown
    have HBB5 := Lib.hid (below_then HBB4.out hbn)
    have HX5 := Lib.hid (HX4.out.later hbn)
    have HC5 := Lib.hid (HC4.out.later hbn)
    have HD5 := Lib.hid (HD4.out.later hbn)
    clear hbn
    go_wp2_with (with_reducible refine stop_store 101 _ _ rfl ?_)
    refine StopD.go ?_
    obtain ⟨g9, hg⟩ : ∃ g, w5.heap.size = g := ⟨_, rfl⟩
    have hbn : Below w5.heap.size w5 ((w5.alloc (.cells #[.int .u8 0, .int .u8 0, .int .u8 0, .int .u8 0, .int .u8 0, .int .u8 0, .int .u8 0, .int .u8 0, .int .i64 0, .slice none 0 0, .slice none 0 0] 101)).alloc (.cells #[.int .u8 0, .int .u8 0, .int .u8 0, .int .u8 0, .int .u8 0, .int .u8 0, .int .u8 0, .int .u8 0, .int .i64 0, .slice none 0 0, .slice none 0 0] 105)) := (below_new w5 _).alloc (by simp) _
    have kt : Bk ((w5.alloc (.cells #[.int .u8 0, .int .u8 0, .int .u8 0, .int .u8 0, .int .u8 0, .int .u8 0, .int .u8 0, .int .u8 0, .int .i64 0, .slice none 0 0, .slice none 0 0] 101)).alloc (.cells #[.int .u8 0, .int .u8 0, .int .u8 0, .int .u8 0, .int .u8 0, .int .u8 0, .int .u8 0, .int .u8 0, .int .i64 0, .slice none 0 0, .slice none 0 0] 105)) g9 101 ([] ++ (sgC 0 zeroD (.slice none 0 0) (.slice none 0 0) ++ [])) := by rw [← hg]; exact (Bk.new' w5 _ #[.int .u8 0, .int .u8 0, .int .u8 0, .int .u8 0, .int .u8 0, .int .u8 0, .int .u8 0, .int .u8 0, .int .i64 0, .slice none 0 0, .slice none 0 0] rfl).alloc _
    have ku : Bk ((w5.alloc (.cells #[.int .u8 0, .int .u8 0, .int .u8 0, .int .u8 0, .int .u8 0, .int .u8 0, .int .u8 0, .int .u8 0, .int .i64 0, .slice none 0 0, .slice none 0 0] 101)).alloc (.cells #[.int .u8 0, .int .u8 0, .int .u8 0, .int .u8 0, .int .u8 0, .int .u8 0, .int .u8 0, .int .u8 0, .int .i64 0, .slice none 0 0, .slice none 0 0] 105)) (g9 + 1) 105 (sgC 0 zeroD (.slice none 0 0) (.slice none 0 0)) := by rw [← hg]; exact Bk.at_ _ _ _ (by simp) rfl
    rw [hg]
    refine wpList_store_part rfl 101 _ _ rfl g9 0 (.agg (sgC n' t' (.slice A' KB C') (.slice Qy qy cy)).toArray) (sgC n' t' (.slice A' KB C') (.slice Qy qy cy)) rfl rfl rfl 101 [] _ [] kt rfl (by rw [sgC_len HUO.out]; rfl) (sg_info HUO.out) sg_one ?_
    intro wq hp
    have hbn : Below w5.heap.size w5 wq := hbn.grown hp.only hbn.size (fun q hq => by injection hq with hq; omega)
    have kt : Bk wq g9 101 (sgC n' t' (.slice A' KB C') (.slice Qy qy cy)) := by have := hp.bk; simpa using this
    have ku : Bk wq (g9 + 1) 105 ([] ++ (sgC 0 zeroD (.slice none 0 0) (.slice none 0 0) ++ [])) := by have := ku.grown hp.only (by intro h; injection h with h; omega); simpa using this
    clear hp
    go_wp2_with (with_reducible refine stop_store 105 _ _ rfl ?_)
    refine StopD.go ?_
    refine wpList_store_part rfl 105 _ _ rfl (g9 + 1) 0 (.agg (sgC n' t' (.slice A' KB C') (.slice Qy qy cy)).toArray) (sgC n' t' (.slice A' KB C') (.slice Qy qy cy)) rfl rfl rfl 105 [] _ [] ku rfl (by rw [sgC_len HUO.out]; rfl) (rsg_info HUO.out) sg_one ?_
    intro w6 hp
    have hbn : Below w5.heap.size w5 w6 := hbn.grown hp.only hbn.size (fun q hq => by injection hq with hq; omega)
    have HE6 : Hid (Bk w6 g9 101 (sgC n' t' (.slice A' KB C') (.slice Qy qy cy))) := kt.grown hp.only (by intro h; injection h with h; omega)
    have HF6 : Hid (Bk w6 (g9 + 1) 105 (sgC n' t' (.slice A' KB C') (.slice Qy qy cy))) := by show Bk _ _ _ _; have := hp.bk; simpa using this
    clear hp kt ku hg
    have HBB6 := Lib.hid (below_then HBB5.out hbn)
    have HX6 := Lib.hid (HX5.out.later hbn)
    have HY6 := Lib.hid (HY5.out.later hbn)
    have HC6 := Lib.hid (HC5.out.later hbn)
    have HD6 := Lib.hid (HD5.out.later hbn)
    clear hbn
    go_wp2_with (first
      | ((with_reducible refine wpList_load_bk rfl 101 _ rfl g7 rfl (sgC n t (.slice A KA C) (.slice Qx qx cx)) 101 HC6.out _ Try.underlying101 rfl (sg_info HTO.out) ?_))
      | ((with_reducible refine wpList_load_bk rfl 101 _ rfl g9 rfl (sgC n' t' (.slice A' KB C') (.slice Qy qy cy)) 101 HE6.out _ Try.underlying101 rfl (sg_info HUO.out) ?_)))
    refine (HJ1.out w6 C C' Qx Qy cx cy (HXX.out.later HBB6.out) (HYY.out.later HBB6.out) HX6.out HY6.out (HPX0.out.later HBB6.out) (HPY0.out.later HBB6.out)).mono ?_
    rintro e w7 ⟨Pj, Qj, Nj, cj, Mj, dj, rs, rfl, hpo, hqo, hro, hL, hbn⟩
    have hNj : J.ps.length = Nj := by have := hpo.1; simpa using this
    have hMj : rs.length = Mj := by have := hqo.1; simpa using this
    have HPJ7 := Lib.hid (Sl.of_own hpo); have HQJ7 := Lib.hid (Sl.of_own hqo); have HRJ7 : Hid (PcsOk w7 rs) := hro.ok
    have HCJ : Hid (PcsCap rs) := fun p hp => own_cap (hro p hp)
    have hcj : Nj ≤ cj := own_cap hpo
    have hN5 : Nj ≤ 5000 := by rw [← hNj]; exact HJS.out.p
    have HFL : Hid (bsP (fewQ rs) = J.L) := by
      show _ = _
      rw [fewQ_same (by have := HJS.out.l; rw [← hL, bsP_len] at this; exact this) (fun p hp => ⟨(hro.ok p hp).length, by have := HJS.out.b p.bs (hL ▸ List.mem_map_of_mem hp); have := (hro.ok p hp).length; omega⟩), hL]
    have HRB : Hid (PcsBy (fewQ rs)) := PcsBy.of (by rw [HFL.out]; exact HJB.out.2.2)
    clear hpo hqo hro hL
    have HBB7 := Lib.hid (below_then HBB6.out hbn)
    have HX7 := Lib.hid (HX6.out.later hbn)
    have HY7 := Lib.hid (HY6.out.later hbn)
    have HC7 := Lib.hid (HC6.out.later hbn)
    have HD7 := Lib.hid (HD6.out.later hbn)
    have HE7 := Lib.hid (HE6.out.later hbn)
    have HF7 := Lib.hid (HF6.out.later hbn)
    clear hbn
    go_wp2_with (with_reducible refine stop_store 101 _ _ rfl ?_)
    refine StopD.go ?_
    obtain ⟨g11, hg⟩ : ∃ g, w7.heap.size = g := ⟨_, rfl⟩
    have hbn : Below w7.heap.size w7 (w7.alloc (.cells #[.int .u8 0, .int .u8 0, .int .u8 0, .int .u8 0, .int .u8 0, .int .u8 0, .int .u8 0, .int .u8 0, .int .i64 0, .slice none 0 0, .slice none 0 0] 101)) := below_new w7 _
    have kt : Bk (w7.alloc (.cells #[.int .u8 0, .int .u8 0, .int .u8 0, .int .u8 0, .int .u8 0, .int .u8 0, .int .u8 0, .int .u8 0, .int .i64 0, .slice none 0 0, .slice none 0 0] 101)) g11 101 ([] ++ (sgC 0 zeroD (.slice none 0 0) (.slice none 0 0) ++ [])) := by rw [← hg]; exact Bk.new' w7 _ #[.int .u8 0, .int .u8 0, .int .u8 0, .int .u8 0, .int .u8 0, .int .u8 0, .int .u8 0, .int .u8 0, .int .i64 0, .slice none 0 0, .slice none 0 0] rfl
    rw [hg]
    refine wpList_store_part rfl 101 _ _ rfl g11 0 (.agg (sgC J.n J.t (.slice Pj Nj cj) (.slice Qj Mj dj)).toArray) (sgC J.n J.t (.slice Pj Nj cj) (.slice Qj Mj dj)) rfl rfl rfl 101 [] _ [] kt rfl (by rw [sgC_len HJT.out]; rfl) (sg_info HJT.out) sg_one ?_
    intro w8 hp
    have hbn : Below w7.heap.size w7 w8 := hbn.grown hp.only hbn.size (fun q hq => by injection hq with hq; omega)
    have HG8 : Hid (Bk w8 g11 101 (sgC J.n J.t (.slice Pj Nj cj) (.slice Qj Mj dj))) := by show Bk _ _ _ _; have := hp.bk; simpa using this
    clear hp kt hg
    have HBB8 := Lib.hid (below_then HBB7.out hbn)
    have HX8 := Lib.hid (HX7.out.later hbn)
    have HY8 := Lib.hid (HY7.out.later hbn)
    have HC8 := Lib.hid (HC7.out.later hbn)
    have HD8 := Lib.hid (HD7.out.later hbn)
    have HE8 := Lib.hid (HE7.out.later hbn)
    have HF8 := Lib.hid (HF7.out.later hbn)
    have HPJ8 := Lib.hid (HPJ7.out.later hbn)
    have HQJ8 := Lib.hid (HQJ7.out.later hbn)
    have HRJ8 := Lib.hid (HRJ7.out.later hbn)
    clear hbn
    go_wp2_with (first
      | ((with_reducible refine wpList_load_bk rfl 105 _ rfl (g7 + 1) rfl (sgC n t (.slice A KA C) (.slice Qx qx cx)) 105 HD8.out _ Try.underlying105 rfl (rsg_info HTO.out) ?_))
      | ((with_reducible refine wpList_load_bk rfl 105 _ rfl (g9 + 1) rfl (sgC n' t' (.slice A' KB C') (.slice Qy qy cy)) 105 HF8.out _ Try.underlying105 rfl (rsg_info HUO.out) ?_)))
    refine (HJ2.out w8 C C' Qx Qy cx cy (HXX.out.later HBB8.out) (HYY.out.later HBB8.out) HX8.out HY8.out (HPX0.out.later HBB8.out) (HPY0.out.later HBB8.out)).mono ?_
    rintro e w9 ⟨P2, Q2, N2, c2, M2, d2, rs2, rfl, h1, h2, h3, h4, hbn⟩
    have HPZ9 := Lib.hid h1; have HQZ9 := Lib.hid h2; have HRZ9 := Lib.hid h3; have HLZ := Lib.hid h4
    have HZB : Hid (PcsBy rs2) := PcsBy.of (by rw [h4]; exact HJB.out.2.2)
    clear h1 h2 h3 h4
    have HBB9 := Lib.hid (below_then HBB8.out hbn)
    have HX9 := Lib.hid (HX8.out.later hbn)
    have HY9 := Lib.hid (HY8.out.later hbn)
    have HC9 := Lib.hid (HC8.out.later hbn)
    have HD9 := Lib.hid (HD8.out.later hbn)
    have HE9 := Lib.hid (HE8.out.later hbn)
    have HF9 := Lib.hid (HF8.out.later hbn)
    have HG9 := Lib.hid (HG8.out.later hbn)
    have HPJ9 := Lib.hid (HPJ8.out.later hbn)
    have HQJ9 := Lib.hid (HQJ8.out.later hbn)
    have HRJ9 := Lib.hid (HRJ8.out.later hbn)
    clear hbn
    go_wp2_with (with_reducible refine stop_store 105 _ _ rfl ?_)
    refine StopD.go ?_
    obtain ⟨g13, hg⟩ : ∃ g, w9.heap.size = g := ⟨_, rfl⟩
    have hbn : Below w9.heap.size w9 (w9.alloc (.cells #[.int .u8 0, .int .u8 0, .int .u8 0, .int .u8 0, .int .u8 0, .int .u8 0, .int .u8 0, .int .u8 0, .int .i64 0, .slice none 0 0, .slice none 0 0] 105)) := below_new w9 _
    have kt : Bk (w9.alloc (.cells #[.int .u8 0, .int .u8 0, .int .u8 0, .int .u8 0, .int .u8 0, .int .u8 0, .int .u8 0, .int .u8 0, .int .i64 0, .slice none 0 0, .slice none 0 0] 105)) g13 105 ([] ++ (sgC 0 zeroD (.slice none 0 0) (.slice none 0 0) ++ [])) := by rw [← hg]; exact Bk.new' w9 _ #[.int .u8 0, .int .u8 0, .int .u8 0, .int .u8 0, .int .u8 0, .int .u8 0, .int .u8 0, .int .u8 0, .int .i64 0, .slice none 0 0, .slice none 0 0] rfl
    rw [hg]
    refine wpList_store_part rfl 105 _ _ rfl g13 0 (.agg (sgC J.n J.t (.slice P2 N2 c2) (.slice Q2 M2 d2)).toArray) (sgC J.n J.t (.slice P2 N2 c2) (.slice Q2 M2 d2)) rfl rfl rfl 105 [] _ [] kt rfl (by rw [sgC_len HJT.out]; rfl) (rsg_info HJT.out) sg_one ?_
    intro w10 hp
    have hbn : Below w9.heap.size w9 w10 := hbn.grown hp.only hbn.size (fun q hq => by injection hq with hq; omega)
    have HH10 : Hid (Bk w10 g13 105 (sgC J.n J.t (.slice P2 N2 c2) (.slice Q2 M2 d2))) := by show Bk _ _ _ _; have := hp.bk; simpa using this
    clear hp kt hg
    have HBB10 := Lib.hid (below_then HBB9.out hbn)
    have HX10 := Lib.hid (HX9.out.later hbn)
    have HY10 := Lib.hid (HY9.out.later hbn)
    have HC10 := Lib.hid (HC9.out.later hbn)
    have HD10 := Lib.hid (HD9.out.later hbn)
    have HE10 := Lib.hid (HE9.out.later hbn)
    have HF10 := Lib.hid (HF9.out.later hbn)
    have HG10 := Lib.hid (HG9.out.later hbn)
    have HPJ10 := Lib.hid (HPJ9.out.later hbn)
    have HQJ10 := Lib.hid (HQJ9.out.later hbn)
    have HRJ10 := Lib.hid (HRJ9.out.later hbn)
    have HPZ10 := Lib.hid (HPZ9.out.later hbn)
    have HQZ10 := Lib.hid (HQZ9.out.later hbn)
    have HRZ10 := Lib.hid (HRZ9.out.later hbn)
    clear hbn
    go_wp2_with (with_reducible refine wpList_load_bk rfl 101 _ rfl g11 rfl (sgC J.n J.t (.slice Pj Nj cj) (.slice Qj Mj dj)) 101 HG10.out _ Try.underlying101 rfl (sg_info HJT.out) ?_)
    have HPL3 := Lib.hid (plain_any w10 J.t HJT.out J.n Pj Qj Nj cj Mj dj hcj rs HQJ10.out HCJ.out)
    unfold RetPl at HPL3
    rw [Nat.min_eq_left hN5] at HPL3
    obtain ⟨qj, hqj⟩ : ∃ K, min rs.length 12 = K := ⟨_, rfl⟩
    rw [hqj] at HPL3
    refine HPL3.out.mono ?_
    rintro e w11 ⟨Qf, cf, rfl, hown, hbn⟩
    have HV11 := Lib.hid (Sl.of_own hown)
    clear hown hqj
    have HBB11 := Lib.hid (below_then HBB10.out hbn)
    have HX11 := Lib.hid (HX10.out.later hbn)
    have HY11 := Lib.hid (HY10.out.later hbn)
    have HC11 := Lib.hid (HC10.out.later hbn)
    have HD11 := Lib.hid (HD10.out.later hbn)
    have HE11 := Lib.hid (HE10.out.later hbn)
    have HF11 := Lib.hid (HF10.out.later hbn)
    have HH11 := Lib.hid (HH10.out.later hbn)
    have HPJ11 := Lib.hid (HPJ10.out.later hbn)
    have HRJ11 := Lib.hid (HRJ10.out.later hbn)
    have HPZ11 := Lib.hid (HPZ10.out.later hbn)
    have HQZ11 := Lib.hid (HQZ10.out.later hbn)
    have HRZ11 := Lib.hid (HRZ10.out.later hbn)
    clear hbn
    go_wp2_with (with_reducible refine stop_store 101 _ _ rfl ?_)
    refine StopD.go ?_
    obtain ⟨g15, hg⟩ : ∃ g, w11.heap.size = g := ⟨_, rfl⟩
    have hbn : Below w11.heap.size w11 ((w11.alloc (.cells #[.int .u8 0, .int .u8 0, .int .u8 0, .int .u8 0, .int .u8 0, .int .u8 0, .int .u8 0, .int .u8 0, .int .i64 0, .slice none 0 0, .slice none 0 0] 101)).alloc (.cells #[.int .u8 0, .int .u8 0, .int .u8 0, .int .u8 0, .int .u8 0, .int .u8 0, .int .u8 0, .int .u8 0, .int .i64 0, .slice none 0 0, .slice none 0 0] 105)) := (below_new w11 _).alloc (by simp) _
    have kt : Bk ((w11.alloc (.cells #[.int .u8 0, .int .u8 0, .int .u8 0, .int .u8 0, .int .u8 0, .int .u8 0, .int .u8 0, .int .u8 0, .int .i64 0, .slice none 0 0, .slice none 0 0] 101)).alloc (.cells #[.int .u8 0, .int .u8 0, .int .u8 0, .int .u8 0, .int .u8 0, .int .u8 0, .int .u8 0, .int .u8 0, .int .i64 0, .slice none 0 0, .slice none 0 0] 105)) g15 101 ([] ++ (sgC 0 zeroD (.slice none 0 0) (.slice none 0 0) ++ [])) := by rw [← hg]; exact (Bk.new' w11 _ #[.int .u8 0, .int .u8 0, .int .u8 0, .int .u8 0, .int .u8 0, .int .u8 0, .int .u8 0, .int .u8 0, .int .i64 0, .slice none 0 0, .slice none 0 0] rfl).alloc _
    have ku : Bk ((w11.alloc (.cells #[.int .u8 0, .int .u8 0, .int .u8 0, .int .u8 0, .int .u8 0, .int .u8 0, .int .u8 0, .int .u8 0, .int .i64 0, .slice none 0 0, .slice none 0 0] 101)).alloc (.cells #[.int .u8 0, .int .u8 0, .int .u8 0, .int .u8 0, .int .u8 0, .int .u8 0, .int .u8 0, .int .u8 0, .int .i64 0, .slice none 0 0, .slice none 0 0] 105)) (g15 + 1) 105 (sgC 0 zeroD (.slice none 0 0) (.slice none 0 0)) := by rw [← hg]; exact Bk.at_ _ _ _ (by simp) rfl
    rw [hg]
    refine wpList_store_part rfl 101 _ _ rfl g15 0 (.agg (sgC J.n J.t (.slice Pj Nj cj) (.slice Qf qj cf)).toArray) (sgC J.n J.t (.slice Pj Nj cj) (.slice Qf qj cf)) rfl rfl rfl 101 [] _ [] kt rfl (by rw [sgC_len HJT.out]; rfl) (sg_info HJT.out) sg_one ?_
    intro wq hp
    have hbn : Below w11.heap.size w11 wq := hbn.grown hp.only hbn.size (fun q hq => by injection hq with hq; omega)
    have kt : Bk wq g15 101 (sgC J.n J.t (.slice Pj Nj cj) (.slice Qf qj cf)) := by have := hp.bk; simpa using this
    have ku : Bk wq (g15 + 1) 105 ([] ++ (sgC 0 zeroD (.slice none 0 0) (.slice none 0 0) ++ [])) := by have := ku.grown hp.only (by intro h; injection h with h; omega); simpa using this
    clear hp
    go_wp2_with (with_reducible refine stop_store 105 _ _ rfl ?_)
    refine StopD.go ?_
    refine wpList_store_part rfl 105 _ _ rfl (g15 + 1) 0 (.agg (sgC J.n J.t (.slice Pj Nj cj) (.slice Qf qj cf)).toArray) (sgC J.n J.t (.slice Pj Nj cj) (.slice Qf qj cf)) rfl rfl rfl 105 [] _ [] ku rfl (by rw [sgC_len HJT.out]; rfl) (rsg_info HJT.out) sg_one ?_
    intro w12 hp
    have hbn : Below w11.heap.size w11 w12 := hbn.grown hp.only hbn.size (fun q hq => by injection hq with hq; omega)
    have HI12 : Hid (Bk w12 g15 101 (sgC J.n J.t (.slice Pj Nj cj) (.slice Qf qj cf))) := kt.grown hp.only (by intro h; injection h with h; omega)
    have HK12 : Hid (Bk w12 (g15 + 1) 105 (sgC J.n J.t (.slice Pj Nj cj) (.slice Qf qj cf))) := by show Bk _ _ _ _; have := hp.bk; simpa using this
    clear hp kt ku hg
    have HBB12 := Lib.hid (below_then HBB11.out hbn)
    have HX12 := Lib.hid (HX11.out.later hbn)
    have HY12 := Lib.hid (HY11.out.later hbn)
    have HC12 := Lib.hid (HC11.out.later hbn)
    have HD12 := Lib.hid (HD11.out.later hbn)
    have HE12 := Lib.hid (HE11.out.later hbn)
    have HF12 := Lib.hid (HF11.out.later hbn)
    have HH12 := Lib.hid (HH11.out.later hbn)
    have HPJ12 := Lib.hid (HPJ11.out.later hbn)
    have HRJ12 := Lib.hid (HRJ11.out.later hbn)
    have HPZ12 := Lib.hid (HPZ11.out.later hbn)
    have HQZ12 := Lib.hid (HQZ11.out.later hbn)
    have HRZ12 := Lib.hid (HRZ11.out.later hbn)
    have HV12 := Lib.hid (HV11.out.later hbn)
    clear hbn
    have hee : ((J.e : Int) == J.e) = true := by simp
    go_wp2_with fail
    refine wp_region_held_drew (S := fun w' => Bk w' g7 101 (sgC n t (.slice A KA C) (.slice Qx qx cx)) ∧ Bk w' (g7 + 1) 105 (sgC n t (.slice A KA C) (.slice Qx qx cx)) ∧ Bk w' g9 101 (sgC n' t' (.slice A' KB C') (.slice Qy qy cy)) ∧ Bk w' (g9 + 1) 105 (sgC n' t' (.slice A' KB C') (.slice Qy qy cy)) ∧ Bk w' g13 105 (sgC J.n J.t (.slice P2 N2 c2) (.slice Q2 M2 d2)) ∧ Bk w' (g15 + 1) 105 (sgC J.n J.t (.slice Pj Nj cj) (.slice Qf qj cf))) (by kernel_rfl) ⟨Bk.drew HC12.out, Bk.drew HD12.out, Bk.drew HE12.out, Bk.drew HF12.out, Bk.drew HH12.out, Bk.drew HK12.out⟩ (fun hHeld => ?_)
    refine wpAnyH_ready (rs := [0]) (by kernel_rfl) (by simp) ?_
    refine AllReadyH.cons rfl (fun K hK => ?_) AllReadyH.nil
    go_simp
    (go_at_call 45; refine (stold_any w12.drew).mono ?_; rintro e w13 ⟨rfl, hbn⟩; have hbn := (below_draws w12 _ 1).trans hbn; have HBB13 := Lib.hid (below_then HBB12.out hbn); have HX13 := Lib.hid (HX12.out.later hbn); have HY13 := Lib.hid (HY12.out.later hbn); have HC13 := Lib.hid (HC12.out.later hbn); have HD13 := Lib.hid (HD12.out.later hbn); have HE13 := Lib.hid (HE12.out.later hbn); have HF13 := Lib.hid (HF12.out.later hbn); have HH13 := Lib.hid (HH12.out.later hbn); have HK13 := Lib.hid (HK12.out.later hbn); have HPJ13 := Lib.hid (HPJ12.out.later hbn); have HRJ13 := Lib.hid (HRJ12.out.later hbn); have HPZ13 := Lib.hid (HPZ12.out.later hbn); have HQZ13 := Lib.hid (HQZ12.out.later hbn); have HRZ13 := Lib.hid (HRZ12.out.later hbn); have HV13 := Lib.hid (HV12.out.later hbn); clear hbn)
    refine hK.out _ _ (⟨HC13.out, HD13.out, HE13.out, HF13.out, HH13.out, HK13.out⟩) (fun hHeld => ?_)
    clear hK K
    try simp only [Act.put, List.setIfInBounds_toArray, List.set_cons_zero, List.set_cons_succ, List.getElem_toArray, List.getElem_cons_zero, List.getElem_cons_succ]
    refine wpAnyH_take (i := 1) (v := ?_) rfl (by kernel_rfl) (by kernel_rfl) (by kernel_rfl) (fun _ _ _ h => h) (Or.inl ⟨by rfl, ?_⟩) (by assumption) ?_
    rotate_left
    · intro w hSw
      (try dsimp only at hSw)
      go_simp
      try with_reducible rfl
    try simp only [Act.put, List.setIfInBounds_toArray, List.set_cons_zero, List.set_cons_succ, List.getElem_toArray, List.getElem_cons_zero, List.getElem_cons_succ]
    refine wpAnyH_take (i := 2) (v := ?_) rfl (by kernel_rfl) (by kernel_rfl) (by kernel_rfl) (fun _ _ _ h => h) (Or.inl ⟨by rfl, ?_⟩) (by assumption) ?_
    rotate_left
    · intro w hSw
      (try dsimp only at hSw)
      go_simp
      try with_reducible rfl
    try simp only [Act.put, List.setIfInBounds_toArray, List.set_cons_zero, List.set_cons_succ, List.getElem_toArray, List.getElem_cons_zero, List.getElem_cons_succ]
    refine wpAnyH_take (i := 3) (v := ?_) rfl (by kernel_rfl) (by kernel_rfl) (by kernel_rfl) (fun _ _ _ h => h) (Or.inl ⟨by rfl, ?_⟩) (by assumption) ?_
    rotate_left
    · intro w hSw
      (try dsimp only at hSw)
      go_simp
      try with_reducible rfl
    try simp only [Act.put, List.setIfInBounds_toArray, List.set_cons_zero, List.set_cons_succ, List.getElem_toArray, List.getElem_cons_zero, List.getElem_cons_succ]
    refine wpAnyH_take (i := 4) (v := ?_) rfl (by kernel_rfl) (by kernel_rfl) (by kernel_rfl) (fun _ _ _ h => h) (Or.inl ⟨by rfl, ?_⟩) (by assumption) ?_
    rotate_left
    · intro w hSw
      (try dsimp only at hSw)
      go_simp
      try with_reducible rfl
    try simp only [Act.put, List.setIfInBounds_toArray, List.set_cons_zero, List.set_cons_succ, List.getElem_toArray, List.getElem_cons_zero, List.getElem_cons_succ]
    refine wpAnyH_take (i := 5) (v := ?_) rfl (by kernel_rfl) (by kernel_rfl) (by kernel_rfl) (fun _ _ _ h => h) (Or.inl ⟨by rfl, ?_⟩) (by assumption) ?_
    rotate_left
    · intro w hSw
      (try dsimp only at hSw)
      go_simp
      try with_reducible rfl
    try simp only [Act.put, List.setIfInBounds_toArray, List.set_cons_zero, List.set_cons_succ, List.getElem_toArray, List.getElem_cons_zero, List.getElem_cons_succ]
    refine wpAnyH_take (i := 6) (v := ?_) rfl (by kernel_rfl) (by kernel_rfl) (by kernel_rfl) (fun _ _ _ h => h) (Or.inl ⟨by rfl, ?_⟩) (by assumption) ?_
    rotate_left
    · intro w hSw
      (try dsimp only at hSw)
      go_simp
      try with_reducible rfl
    try simp only [Act.put, List.setIfInBounds_toArray, List.set_cons_zero, List.set_cons_succ, List.getElem_toArray, List.getElem_cons_zero, List.getElem_cons_succ]
    refine wpAnyH_take (i := 7) (v := .agg (List.toArray (sgC J.n J.t (.slice Pj Nj cj) (.slice Qf qj cf)))) rfl (by kernel_rfl) (by kernel_rfl) (by kernel_rfl) (fun _ _ _ h => h) (yieldsIf_load_mid (by rfl) _ _ rfl _ _ rfl (sgC J.n J.t (.slice Pj Nj cj) (.slice Qf qj cf)) _ (fun w hSw => (Bk.range (pre := []) (post := []) (by simpa using hSw.2.2.2.2.2) rfl)) Try.underlying105 rfl ((rsg_info HJT.out))) (by assumption) ?_
    try simp only [Act.put, List.setIfInBounds_toArray, List.set_cons_zero, List.set_cons_succ, List.getElem_toArray, List.getElem_cons_zero, List.getElem_cons_succ]
    refine wpAnyH_take (i := 8) (v := .agg (List.toArray (sgC J.n J.t (.slice P2 N2 c2) (.slice Q2 M2 d2)))) rfl (by kernel_rfl) (by kernel_rfl) (by kernel_rfl) (fun _ _ _ h => h) (yieldsIf_load_mid (by rfl) _ _ rfl _ _ rfl (sgC J.n J.t (.slice P2 N2 c2) (.slice Q2 M2 d2)) _ (fun w hSw => (Bk.range (pre := []) (post := []) (by simpa using hSw.2.2.2.2.1) rfl)) Try.underlying105 rfl ((rsg_info HJT.out))) (by assumption) ?_
    try simp only [Act.put, List.setIfInBounds_toArray, List.set_cons_zero, List.set_cons_succ, List.getElem_toArray, List.getElem_cons_zero, List.getElem_cons_succ]
    refine wpAnyH_ready (rs := [9]) (by kernel_rfl) (by simp) ?_
    refine AllReadyH.cons rfl (fun K hK => ?_) AllReadyH.nil
    go_simp
    (go_at_call 55; refine (rsgSame_any w13 J.t J.t HJT.out HJT.out J.n J.n Pj P2 Qf Q2 Nj cj N2 c2 qj cf M2 d2 J.ps J.ps (fewQ rs) rs2 HPJ13.out HPZ13.out HJB.out.2.1 HJB.out.2.1 HV13.out HQZ13.out HRJ13.out.few HRZ13.out HRB.out HZB.out).mono ?_; rw [HFL.out, HLZ.out, sameG_self]; rintro e w14 ⟨rfl, hbn⟩; have HBB14 := Lib.hid (below_then HBB13.out hbn); have HX14 := Lib.hid (HX13.out.later hbn); have HY14 := Lib.hid (HY13.out.later hbn); have HC14 := Lib.hid (HC13.out.later hbn); have HD14 := Lib.hid (HD13.out.later hbn); have HE14 := Lib.hid (HE13.out.later hbn); have HF14 := Lib.hid (HF13.out.later hbn); have HH14 := Lib.hid (HH13.out.later hbn); have HK14 := Lib.hid (HK13.out.later hbn); clear hbn)
    refine hK.out _ _ (⟨HC14.out, HD14.out, HE14.out, HF14.out, HH14.out, HK14.out⟩) (fun hHeld => ?_)
    clear hK K
    try simp only [Act.put, List.setIfInBounds_toArray, List.set_cons_zero, List.set_cons_succ, List.getElem_toArray, List.getElem_cons_zero, List.getElem_cons_succ]
    refine wpAnyH_take (i := 10) (v := ?_) rfl (by kernel_rfl) (by kernel_rfl) (by kernel_rfl) (fun _ _ _ h => h) (Or.inl ⟨by rfl, ?_⟩) (by assumption) ?_
    rotate_left
    · intro w hSw
      (try dsimp only at hSw)
      go_simp
      try with_reducible rfl
    try simp only [Act.put, List.setIfInBounds_toArray, List.set_cons_zero, List.set_cons_succ, List.getElem_toArray, List.getElem_cons_zero, List.getElem_cons_succ]
    refine wpAnyH_take (i := 11) (v := ?_) rfl (by kernel_rfl) (by kernel_rfl) (by kernel_rfl) (fun _ _ _ h => h) (Or.inl ⟨by rfl, ?_⟩) (by assumption) ?_
    rotate_left
    · intro w hSw
      (try dsimp only at hSw)
      go_simp
      try with_reducible rfl
    try simp only [Act.put, List.setIfInBounds_toArray, List.set_cons_zero, List.set_cons_succ, List.getElem_toArray, List.getElem_cons_zero, List.getElem_cons_succ]
    refine wpAnyH_take (i := 12) (v := .agg (List.toArray (sgC n t (.slice A KA C) (.slice Qx qx cx)))) rfl (by kernel_rfl) (by kernel_rfl) (by kernel_rfl) (fun _ _ _ h => h) (yieldsIf_load_mid (by rfl) _ _ rfl _ _ rfl (sgC n t (.slice A KA C) (.slice Qx qx cx)) _ (fun w hSw => (Bk.range (pre := []) (post := []) (by simpa using hSw.1) rfl)) Try.underlying101 rfl ((sg_info HTO.out))) (by assumption) ?_
    try simp only [Act.put, List.setIfInBounds_toArray, List.set_cons_zero, List.set_cons_succ, List.getElem_toArray, List.getElem_cons_zero, List.getElem_cons_succ]
    refine wpAnyH_take (i := 13) (v := .agg (List.toArray (sgC n' t' (.slice A' KB C') (.slice Qy qy cy)))) rfl (by kernel_rfl) (by kernel_rfl) (by kernel_rfl) (fun _ _ _ h => h) (yieldsIf_load_mid (by rfl) _ _ rfl _ _ rfl (sgC n' t' (.slice A' KB C') (.slice Qy qy cy)) _ (fun w hSw => (Bk.range (pre := []) (post := []) (by simpa using hSw.2.2.1) rfl)) Try.underlying101 rfl ((sg_info HUO.out))) (by assumption) ?_
    try simp only [Act.put, List.setIfInBounds_toArray, List.set_cons_zero, List.set_cons_succ, List.getElem_toArray, List.getElem_cons_zero, List.getElem_cons_succ]
    refine wpAnyH_take (i := 15) (v := .agg (List.toArray (sgC n t (.slice A KA C) (.slice Qx qx cx)))) rfl (by kernel_rfl) (by kernel_rfl) (by kernel_rfl) (fun _ _ _ h => h) (yieldsIf_load_mid (by rfl) _ _ rfl _ _ rfl (sgC n t (.slice A KA C) (.slice Qx qx cx)) _ (fun w hSw => (Bk.range (pre := []) (post := []) (by simpa using hSw.2.1) rfl)) Try.underlying105 rfl ((rsg_info HTO.out))) (by assumption) ?_
    try simp only [Act.put, List.setIfInBounds_toArray, List.set_cons_zero, List.set_cons_succ, List.getElem_toArray, List.getElem_cons_zero, List.getElem_cons_succ]
    refine wpAnyH_take (i := 16) (v := .agg (List.toArray (sgC n' t' (.slice A' KB C') (.slice Qy qy cy)))) rfl (by kernel_rfl) (by kernel_rfl) (by kernel_rfl) (fun _ _ _ h => h) (yieldsIf_load_mid (by rfl) _ _ rfl _ _ rfl (sgC n' t' (.slice A' KB C') (.slice Qy qy cy)) _ (fun w hSw => (Bk.range (pre := []) (post := []) (by simpa using hSw.2.2.2.1) rfl)) Try.underlying105 rfl ((rsg_info HUO.out))) (by assumption) ?_
    try simp only [Act.put, List.setIfInBounds_toArray, List.set_cons_zero, List.set_cons_succ, List.getElem_toArray, List.getElem_cons_zero, List.getElem_cons_succ]
    obtain ⟨G, hG⟩ : ∃ G, sameG t t' n n' xs ys (bsP (fewQ qs)) (bsP (fewQ qs')) = G := ⟨_, rfl⟩
    have HGG := Lib.hid hG
    clear hG
    refine wpAnyH_ready (rs := [14]) (by kernel_rfl) (by simp) ?_
    refine AllReadyH.cons rfl (fun K hK => ?_) AllReadyH.nil
    go_simp
    (go_at_call 56; refine (sgSame_any w14 t t' HTO.out HUO.out n n' A A' Qx Qy KA C KB C' qx cx qy cy xs ys (fewQ qs) (fewQ qs') (HXX.out.later HBB14.out) (HYY.out.later HBB14.out) HXB.out HYB.out HX14.out HY14.out (HPX0.out.later HBB14.out) (HPY0.out.later HBB14.out) HPXB.out HPYB.out).mono ?_; rw [HGG.out]; rintro e w15 ⟨rfl, hbn⟩; have HBB15 := Lib.hid (below_then HBB14.out hbn); have HX15 := Lib.hid (HX14.out.later hbn); have HY15 := Lib.hid (HY14.out.later hbn); have HC15 := Lib.hid (HC14.out.later hbn); have HD15 := Lib.hid (HD14.out.later hbn); have HE15 := Lib.hid (HE14.out.later hbn); have HF15 := Lib.hid (HF14.out.later hbn); have HH15 := Lib.hid (HH14.out.later hbn); have HK15 := Lib.hid (HK14.out.later hbn); clear hbn)
    refine hK.out _ _ (⟨HC15.out, HD15.out, HE15.out, HF15.out, HH15.out, HK15.out⟩) (fun hHeld => ?_)
    clear hK K
    try simp only [Act.put, List.setIfInBounds_toArray, List.set_cons_zero, List.set_cons_succ, List.getElem_toArray, List.getElem_cons_zero, List.getElem_cons_succ]
    refine wpAnyH_ready (rs := [17]) (by kernel_rfl) (by simp) ?_
    refine AllReadyH.cons rfl (fun K hK => ?_) AllReadyH.nil
    go_simp
    (go_at_call 55; refine (rsgSame_any w15 t t' HTO.out HUO.out n n' A A' Qx Qy KA C KB C' qx cx qy cy xs ys (fewQ qs) (fewQ qs') (HXX.out.later HBB15.out) (HYY.out.later HBB15.out) HXB.out HYB.out HX15.out HY15.out (HPX0.out.later HBB15.out) (HPY0.out.later HBB15.out) HPXB.out HPYB.out).mono ?_; rw [HGG.out]; rintro e w16 ⟨rfl, hbn⟩; have HBB16 := Lib.hid (below_then HBB15.out hbn); have HX16 := Lib.hid (HX15.out.later hbn); have HY16 := Lib.hid (HY15.out.later hbn); have HC16 := Lib.hid (HC15.out.later hbn); have HD16 := Lib.hid (HD15.out.later hbn); have HE16 := Lib.hid (HE15.out.later hbn); have HF16 := Lib.hid (HF15.out.later hbn); have HH16 := Lib.hid (HH15.out.later hbn); have HK16 := Lib.hid (HK15.out.later hbn); clear hbn)
    refine hK.out _ _ (⟨HC16.out, HD16.out, HE16.out, HF16.out, HH16.out, HK16.out⟩) (fun hHeld => ?_)
    clear hK K
    try simp only [Act.put, List.setIfInBounds_toArray, List.set_cons_zero, List.set_cons_succ, List.getElem_toArray, List.getElem_cons_zero, List.getElem_cons_succ]
    refine wpAnyH_take (i := 18) (v := ?_) rfl (by kernel_rfl) (by kernel_rfl) (by kernel_rfl) (fun _ _ _ h => h) (Or.inl ⟨by rfl, ?_⟩) (by assumption) ?_
    rotate_left
    · intro w hSw
      (try dsimp only at hSw)
      go_simp
      try with_reducible rfl
    try simp only [Act.put, List.setIfInBounds_toArray, List.set_cons_zero, List.set_cons_succ, List.getElem_toArray, List.getElem_cons_zero, List.getElem_cons_succ]
    refine wpAnyH_take (i := 19) (v := ?_) rfl (by kernel_rfl) (by kernel_rfl) (by kernel_rfl) (fun _ _ _ h => h) (Or.inl ⟨by rfl, ?_⟩) (by assumption) ?_
    rotate_left
    · intro w hSw
      (try dsimp only at hSw)
      go_simp
      try with_reducible rfl
    try simp only [Act.put, List.setIfInBounds_toArray, List.set_cons_zero, List.set_cons_succ, List.getElem_toArray, List.getElem_cons_zero, List.getElem_cons_succ]
    refine wpAnyH_take (i := 20) (v := ?_) rfl (by kernel_rfl) (by kernel_rfl) (by kernel_rfl) (fun _ _ _ h => h) (Or.inl ⟨by rfl, ?_⟩) (by assumption) ?_
    rotate_left
    · intro w hSw
      (try dsimp only at hSw)
      go_simp
      try with_reducible rfl
    try simp only [Act.put, List.setIfInBounds_toArray, List.set_cons_zero, List.set_cons_succ, List.getElem_toArray, List.getElem_cons_zero, List.getElem_cons_succ]
    refine wpAnyH_take (i := 21) (v := .agg (List.toArray (sgC n t (.slice A KA C) (.slice Qx qx cx)))) rfl (by kernel_rfl) (by kernel_rfl) (by kernel_rfl) (fun _ _ _ h => h) (yieldsIf_load_mid (by rfl) _ _ rfl _ _ rfl (sgC n t (.slice A KA C) (.slice Qx qx cx)) _ (fun w hSw => (Bk.range (pre := []) (post := []) (by simpa using hSw.1) rfl)) Try.underlying101 rfl ((sg_info HTO.out))) (by assumption) ?_
    try simp only [Act.put, List.setIfInBounds_toArray, List.set_cons_zero, List.set_cons_succ, List.getElem_toArray, List.getElem_cons_zero, List.getElem_cons_succ]
    refine wpAnyH_take (i := 22) (v := .agg (List.toArray (sgC n t (.slice A KA C) (.slice Qx qx cx)))) rfl (by kernel_rfl) (by kernel_rfl) (by kernel_rfl) (fun _ _ _ h => h) (yieldsIf_load_mid (by rfl) _ _ rfl _ _ rfl (sgC n t (.slice A KA C) (.slice Qx qx cx)) _ (fun w hSw => (Bk.range (pre := []) (post := []) (by simpa using hSw.1) rfl)) Try.underlying101 rfl ((sg_info HTO.out))) (by assumption) ?_
    try simp only [Act.put, List.setIfInBounds_toArray, List.set_cons_zero, List.set_cons_succ, List.getElem_toArray, List.getElem_cons_zero, List.getElem_cons_succ]
    refine wpAnyH_ready (rs := [23]) (by kernel_rfl) (by simp) ?_
    refine AllReadyH.cons rfl (fun K hK => ?_) AllReadyH.nil
    go_simp
    (go_at_call 56; refine (sgSame_any w16 t t HTO.out HTO.out n n A A Qx Qx KA C KA C qx cx qx cx xs xs (fewQ qs) (fewQ qs) (HXX.out.later HBB16.out) (HXX.out.later HBB16.out) HXB.out HXB.out HX16.out HX16.out (HPX0.out.later HBB16.out) (HPX0.out.later HBB16.out) HPXB.out HPXB.out).mono ?_; rw [sameG_self]; rintro e w17 ⟨rfl, hbn⟩; have HBB17 := Lib.hid (below_then HBB16.out hbn); have HC17 := Lib.hid (HC16.out.later hbn); have HD17 := Lib.hid (HD16.out.later hbn); have HE17 := Lib.hid (HE16.out.later hbn); have HF17 := Lib.hid (HF16.out.later hbn); have HH17 := Lib.hid (HH16.out.later hbn); have HK17 := Lib.hid (HK16.out.later hbn); clear hbn)
    refine hK.out _ _ (⟨HC17.out, HD17.out, HE17.out, HF17.out, HH17.out, HK17.out⟩) (fun hHeld => ?_)
    clear hK K
    try simp only [Act.put, List.setIfInBounds_toArray, List.set_cons_zero, List.set_cons_succ, List.getElem_toArray, List.getElem_cons_zero, List.getElem_cons_succ]
    refine wpAnyH_take (i := 24) (v := ?_) rfl (by kernel_rfl) (by kernel_rfl) (by kernel_rfl) (fun _ _ _ h => h) (Or.inl ⟨by rfl, ?_⟩) (by assumption) ?_
    rotate_left
    · intro w hSw
      (try dsimp only at hSw)
      go_simp
      try with_reducible rfl
    try simp only [Act.put, List.setIfInBounds_toArray, List.set_cons_zero, List.set_cons_succ, List.getElem_toArray, List.getElem_cons_zero, List.getElem_cons_succ]
    refine wpAnyH_take (i := 25) (v := ?_) rfl (by kernel_rfl) (by kernel_rfl) (by kernel_rfl) (fun _ _ _ h => h) (Or.inl ⟨by rfl, ?_⟩) (by assumption) ?_
    rotate_left
    · intro w hSw
      (try dsimp only at hSw)
      go_simp
      try with_reducible rfl
    try simp only [Act.put, List.setIfInBounds_toArray, List.set_cons_zero, List.set_cons_succ, List.getElem_toArray, List.getElem_cons_zero, List.getElem_cons_succ]
    refine wpAnyH_done (by kernel_rfl) ?_ _
    clear hHeld
    go_wp2_with fail
    go_ret
    exact ⟨rfl, HBB17.out⟩
  · go_wp2_with (first
      | ((with_reducible refine wpList_load_mid rfl 31 _ rfl w.heap.size 0 rfl (staC n t (.slice A N C)) _ hrS Try.underlying31 rfl HTZ.out ?_))
      | (with_reducible refine stop_store 31 _ _ rfl ?_))
    refine StopD.go ?_
    refine wpList_store_part rfl 31 _ _ rfl (w.heap.size + 1) 0 (.agg (staC n t (.slice A N C)).toArray) (staC n t (.slice A N C)) rfl rfl rfl 101 [] (staC n' t' (.slice A' N' C')) [.slice B' M' D'] (by have := HB1.out; simpa [sgC] using this) rfl (by rw [staC_len HTO.out, staC_len HTO'.out]) HTZ.out st_one ?_
    intro w2 hp
    have HB2 : Hid (Bk w2 (w.heap.size + 1) 101 (sgC n t (.slice A N C) (.slice B' M' D'))) := by show Bk _ _ _ _; have := hp.bk; simpa [sgC] using this
    have HA2 := Lib.hid (HA1.out.grown hp.only (by intro h; injection h with h; omega))
    have HBB2 := Lib.hid (below_only HBB1.out hp.only HBB1.out.size (Nat.le_succ _))
    have HS0u := HS0; have HUO := HTO; have hNCu := hNC; have HBOu := HBO
    clear hp hrS HTZ
    have hsX := small_few HS0.out HP0.out
    have hsY := small_few HS0u.out HP0'.out
    have HXX := Lib.hid (HS0.out.head1 (k := min N 5000) (Nat.min_le_left _ _)); have HYY := Lib.hid (HS0u.out.head1 (k := min N 5000) (Nat.min_le_left _ _))
    have HXB : Hid (ByOk (ps.take (min N 5000))) := HBO.out.take _
    have HYB : Hid (ByOk (ps.take (min N 5000))) := HBOu.out.take _
    have HPL1 := Lib.hid (fun w' h => plain_any w' t HTO.out n A B N C M D hNC qs h HQC.out)
    have HPL2 := Lib.hid (fun w' h => plain_any w' t HUO.out n A B' N C M' D' hNCu qs' h HQC'.out)
    unfold RetPl at HPL1 HPL2
    obtain ⟨KA, hKA⟩ : ∃ K, min N 5000 = K := ⟨_, rfl⟩
    obtain ⟨KB, hKB⟩ : ∃ K, min N 5000 = K := ⟨_, rfl⟩
    obtain ⟨qx, hqx⟩ : ∃ K, min qs.length 12 = K := ⟨_, rfl⟩
    obtain ⟨qy, hqy⟩ : ∃ K, min qs'.length 12 = K := ⟨_, rfl⟩
    rw [hKA] at HXX HXB HPL1 hsX
    rw [hKB] at HYY HYB HPL2 hsY
    rw [hqx] at HPL1
    rw [hqy] at HPL2
    have hKA5 : KA ≤ 5000 := by omega
    have hKB5 : KB ≤ 5000 := by omega
    have hqx12 : qx ≤ 12 := by omega
    have hqy12 : qy ≤ 12 := by omega
    obtain ⟨xs, hxs⟩ : ∃ x, ps.take KA = x := ⟨_, rfl⟩
    obtain ⟨ys, hys⟩ : ∃ x, ps.take KB = x := ⟨_, rfl⟩
    rw [hxs] at HXX HXB hsX
    rw [hys] at HYY HYB hsY
    have HJS := Lib.hid (joinR_small (t := t) (t' := t) (n := n) (n' := n) hsX hsY)
    have HJB := Lib.hid (joinR_by (t' := t) (n := n) (n' := n) (ps' := ys) HTO.out HXB.out HQB.out.few.all HQB'.out.few.all)
    have HJ1 := Lib.hid (fun w' C1 C2 Q Q' c c' h1 h2 h3 h4 h5 h6 => join2_any w' t t HTO.out HUO.out n n A A Q Q' KA C1 KB C2 qx c qy c' xs ys (fewQ qs) (fewQ qs') h1 h2 HXB.out HYB.out h3 h4 h5 h6 (by omega) (by omega) (fun p hp => by have := few_n p hp; omega) (fun p hp => by have := few_n p hp; omega))
    have HJ2 := Lib.hid (fun w' C1 C2 Q Q' c c' h1 h2 h3 h4 h5 h6 => rjoin_any w' t t HTO.out HUO.out n n A A Q Q' KA C1 KB C2 qx c qy c' xs ys (fewQ qs) (fewQ qs') h1 h2 HXB.out HYB.out h3 h4 h5 h6 (by omega))
    obtain ⟨J, hJ⟩ : ∃ J, joinR t t n n xs ys (bsP (fewQ qs)) (bsP (fewQ qs')) = J := ⟨_, rfl⟩
    rw [hJ] at HJS HJB HJ1 HJ2
    have HPX0 := Lib.hid HP0.out.few; have HPY0 := Lib.hid HP0'.out.few; have HPXB := Lib.hid HQB.out.few; have HPYB := Lib.hid HQB'.out.few
    have HJT : Hid (DgOk J.t) := HJB.out.1
    clear hsX hsY hKA hKB hqx hqy hxs hys hJ
    go_wp2_with (with_reducible refine wpList_load_bk rfl 101 _ rfl w.heap.size rfl (sgC n t (.slice A N C) (.slice B M D)) 101 HA2.out _ Try.underlying101 rfl (sg_info HTO.out) ?_)
    refine (HPL1.out w2 (HQ0.out.later HBB2.out)).mono ?_
    rintro e w3 ⟨Qx, cx, rfl, hown, hbn⟩
    have HX3 := Lib.hid (Sl.of_own hown)
    clear hown
    have HBB3 := Lib.hid (below_then HBB2.out hbn)
    have HB3 := Lib.hid (HB2.out.later hbn)
    clear hbn
    go_wp2_with (with_reducible refine stop_store 101 _ _ rfl ?_)
    refine StopD.go ?_
    obtain ⟨g7, hg⟩ : ∃ g, w3.heap.size = g := ⟨_, rfl⟩
    have hbn : Below w3.heap.size w3 ((w3.alloc (.cells #[.int .u8 0, .int .u8 0, .int .u8 0, .int .u8 0, .int .u8 0, .int .u8 0, .int .u8 0, .int .u8 0, .int .i64 0, .slice none 0 0, .slice none 0 0] 101)).alloc (.cells #[.int .u8 0, .int .u8 0, .int .u8 0, .int .u8 0, .int .u8 0, .int .u8 0, .int .u8 0, .int .u8 0, .int .i64 0, .slice none 0 0, .slice none 0 0] 105)) := (below_new w3 _).alloc (by simp) _
    have kt : Bk ((w3.alloc (.cells #[.int .u8 0, .int .u8 0, .int .u8 0, .int .u8 0, .int .u8 0, .int .u8 0, .int .u8 0, .int .u8 0, .int .i64 0, .slice none 0 0, .slice none 0 0] 101)).alloc (.cells #[.int .u8 0, .int .u8 0, .int .u8 0, .int .u8 0, .int .u8 0, .int .u8 0, .int .u8 0, .int .u8 0, .int .i64 0, .slice none 0 0, .slice none 0 0] 105)) g7 101 ([] ++ (sgC 0 zeroD (.slice none 0 0) (.slice none 0 0) ++ [])) := by rw [← hg]; exact (Bk.new' w3 _ #[.int .u8 0, .int .u8 0, .int .u8 0, .int .u8 0, .int .u8 0, .int .u8 0, .int .u8 0, .int .u8 0, .int .i64 0, .slice none 0 0, .slice none 0 0] rfl).alloc _
    have ku : Bk ((w3.alloc (.cells #[.int .u8 0, .int .u8 0, .int .u8 0, .int .u8 0, .int .u8 0, .int .u8 0, .int .u8 0, .int .u8 0, .int .i64 0, .slice none 0 0, .slice none 0 0] 101)).alloc (.cells #[.int .u8 0, .int .u8 0, .int .u8 0, .int .u8 0, .int .u8 0, .int .u8 0, .int .u8 0, .int .u8 0, .int .i64 0, .slice none 0 0, .slice none 0 0] 105)) (g7 + 1) 105 (sgC 0 zeroD (.slice none 0 0) (.slice none 0 0)) := by rw [← hg]; exact Bk.at_ _ _ _ (by simp) rfl
    rw [hg]
    refine wpList_store_part rfl 101 _ _ rfl g7 0 (.agg (sgC n t (.slice A KA C) (.slice Qx qx cx)).toArray) (sgC n t (.slice A KA C) (.slice Qx qx cx)) rfl rfl rfl 101 [] _ [] kt rfl (by rw [sgC_len HTO.out]; rfl) (sg_info HTO.out) sg_one ?_
    intro wq hp
    have hbn : Below w3.heap.size w3 wq := hbn.grown hp.only hbn.size (fun q hq => by injection hq with hq; omega)
    have kt : Bk wq g7 101 (sgC n t (.slice A KA C) (.slice Qx qx cx)) := by have := hp.bk; simpa using this
    have ku : Bk wq (g7 + 1) 105 ([] ++ (sgC 0 zeroD (.slice none 0 0) (.slice none 0 0) ++ [])) := by have := ku.grown hp.only (by intro h; injection h with h; omega); simpa using this
    clear hp
    go_wp2_with (with_reducible refine stop_store 105 _ _ rfl ?_)
    refine StopD.go ?_
    refine wpList_store_part rfl 105 _ _ rfl (g7 + 1) 0 (.agg (sgC n t (.slice A KA C) (.slice Qx qx cx)).toArray) (sgC n t (.slice A KA C) (.slice Qx qx cx)) rfl rfl rfl 105 [] _ [] ku rfl (by rw [sgC_len HTO.out]; rfl) (rsg_info HTO.out) sg_one ?_
    intro w4 hp
    have hbn : Below w3.heap.size w3 w4 := hbn.grown hp.only hbn.size (fun q hq => by injection hq with hq; omega)
    have HC4 : Hid (Bk w4 g7 101 (sgC n t (.slice A KA C) (.slice Qx qx cx))) := kt.grown hp.only (by intro h; injection h with h; omega)
    have HD4 : Hid (Bk w4 (g7 + 1) 105 (sgC n t (.slice A KA C) (.slice Qx qx cx))) := by show Bk _ _ _ _; have := hp.bk; simpa using this
    clear hp kt ku hg
    have HBB4 := Lib.hid (below_then HBB3.out hbn)
    have HB4 := Lib.hid (HB3.out.later hbn)
    have HX4 := Lib.hid (HX3.out.later hbn)
    clear hbn
    go_wp2_with (with_reducible refine wpList_load_bk rfl 101 _ rfl (w.heap.size + 1) rfl (sgC n t (.slice A N C) (.slice B' M' D')) 101 HB4.out _ Try.underlying101 rfl (sg_info HUO.out) ?_)
    refine (HPL2.out w4 (HQ0'.out.later HBB4.out)).mono ?_
    rintro e w5 ⟨Qy, cy, rfl, hown, hbn⟩
    have HY5 := Lib.hid (Sl.of_own hown)
    clear hown
    have HBB5 := Lib.hid (below_then HBB4.out hbn)
    have HX5 := Lib.hid (HX4.out.later hbn)
    have HC5 := Lib.hid (HC4.out.later hbn)
    have HD5 := Lib.hid (HD4.out.later hbn)
    clear hbn
    go_wp2_with (with_reducible refine stop_store 101 _ _ rfl ?_)
    refine StopD.go ?_
    obtain ⟨g9, hg⟩ : ∃ g, w5.heap.size = g := ⟨_, rfl⟩
    have hbn : Below w5.heap.size w5 ((w5.alloc (.cells #[.int .u8 0, .int .u8 0, .int .u8 0, .int .u8 0, .int .u8 0, .int .u8 0, .int .u8 0, .int .u8 0, .int .i64 0, .slice none 0 0, .slice none 0 0] 101)).alloc (.cells #[.int .u8 0, .int .u8 0, .int .u8 0, .int .u8 0, .int .u8 0, .int .u8 0, .int .u8 0, .int .u8 0, .int .i64 0, .slice none 0 0, .slice none 0 0] 105)) := (below_new w5 _).alloc (by simp) _
    have kt : Bk ((w5.alloc (.cells #[.int .u8 0, .int .u8 0, .int .u8 0, .int .u8 0, .int .u8 0, .int .u8 0, .int .u8 0, .int .u8 0, .int .i64 0, .slice none 0 0, .slice none 0 0] 101)).alloc (.cells #[.int .u8 0, .int .u8 0, .int .u8 0, .int .u8 0, .int .u8 0, .int .u8 0, .int .u8 0, .int .u8 0, .int .i64 0, .slice none 0 0, .slice none 0 0] 105)) g9 101 ([] ++ (sgC 0 zeroD (.slice none 0 0) (.slice none 0 0) ++ [])) := by rw [← hg]; exact (Bk.new' w5 _ #[.int .u8 0, .int .u8 0, .int .u8 0, .int .u8 0, .int .u8 0, .int .u8 0, .int .u8 0, .int .u8 0, .int .i64 0, .slice none 0 0, .slice none 0 0] rfl).alloc _
    have ku : Bk ((w5.alloc (.cells #[.int .u8 0, .int .u8 0, .int .u8 0, .int .u8 0, .int .u8 0, .int .u8 0, .int .u8 0, .int .u8 0, .int .i64 0, .slice none 0 0, .slice none 0 0] 101)).alloc (.cells #[.int .u8 0, .int .u8 0, .int .u8 0, .int .u8 0, .int .u8 0, .int .u8 0, .int .u8 0, .int .u8 0, .int .i64 0, .slice none 0 0, .slice none 0 0] 105)) (g9 + 1) 105 (sgC 0 zeroD (.slice none 0 0) (.slice none 0 0)) := by rw [← hg]; exact Bk.at_ _ _ _ (by simp) rfl
    rw [hg]
    refine wpList_store_part rfl 101 _ _ rfl g9 0 (.agg (sgC n t (.slice A KB C) (.slice Qy qy cy)).toArray) (sgC n t (.slice A KB C) (.slice Qy qy cy)) rfl rfl rfl 101 [] _ [] kt rfl (by rw [sgC_len HUO.out]; rfl) (sg_info HUO.out) sg_one ?_
    intro wq hp
    have hbn : Below w5.heap.size w5 wq := hbn.grown hp.only hbn.size (fun q hq => by injection hq with hq; omega)
    have kt : Bk wq g9 101 (sgC n t (.slice A KB C) (.slice Qy qy cy)) := by have := hp.bk; simpa using this
    have ku : Bk wq (g9 + 1) 105 ([] ++ (sgC 0 zeroD (.slice none 0 0) (.slice none 0 0) ++ [])) := by have := ku.grown hp.only (by intro h; injection h with h; omega); simpa using this
    clear hp
    go_wp2_with (with_reducible refine stop_store 105 _ _ rfl ?_)
    refine StopD.go ?_
    refine wpList_store_part rfl 105 _ _ rfl (g9 + 1) 0 (.agg (sgC n t (.slice A KB C) (.slice Qy qy cy)).toArray) (sgC n t (.slice A KB C) (.slice Qy qy cy)) rfl rfl rfl 105 [] _ [] ku rfl (by rw [sgC_len HUO.out]; rfl) (rsg_info HUO.out) sg_one ?_
    intro w6 hp
    have hbn : Below w5.heap.size w5 w6 := hbn.grown hp.only hbn.size (fun q hq => by injection hq with hq; omega)
    have HE6 : Hid (Bk w6 g9 101 (sgC n t (.slice A KB C) (.slice Qy qy cy))) := kt.grown hp.only (by intro h; injection h with h; omega)
    have HF6 : Hid (Bk w6 (g9 + 1) 105 (sgC n t (.slice A KB C) (.slice Qy qy cy))) := by show Bk _ _ _ _; have := hp.bk; simpa using this
    clear hp kt ku hg
    have HBB6 := Lib.hid (below_then HBB5.out hbn)
    have HX6 := Lib.hid (HX5.out.later hbn)
    have HY6 := Lib.hid (HY5.out.later hbn)
    have HC6 := Lib.hid (HC5.out.later hbn)
    have HD6 := Lib.hid (HD5.out.later hbn)
    clear hbn
    go_wp2_with (first
      | ((with_reducible refine wpList_load_bk rfl 101 _ rfl g7 rfl (sgC n t (.slice A KA C) (.slice Qx qx cx)) 101 HC6.out _ Try.underlying101 rfl (sg_info HTO.out) ?_))
      | ((with_reducible refine wpList_load_bk rfl 101 _ rfl g9 rfl (sgC n t (.slice A KB C) (.slice Qy qy cy)) 101 HE6.out _ Try.underlying101 rfl (sg_info HUO.out) ?_)))
    refine (HJ1.out w6 C C Qx Qy cx cy (HXX.out.later HBB6.out) (HYY.out.later HBB6.out) HX6.out HY6.out (HPX0.out.later HBB6.out) (HPY0.out.later HBB6.out)).mono ?_
    rintro e w7 ⟨Pj, Qj, Nj, cj, Mj, dj, rs, rfl, hpo, hqo, hro, hL, hbn⟩
    have hNj : J.ps.length = Nj := by have := hpo.1; simpa using this
    have hMj : rs.length = Mj := by have := hqo.1; simpa using this
    have HPJ7 := Lib.hid (Sl.of_own hpo); have HQJ7 := Lib.hid (Sl.of_own hqo); have HRJ7 : Hid (PcsOk w7 rs) := hro.ok
    have HCJ : Hid (PcsCap rs) := fun p hp => own_cap (hro p hp)
    have hcj : Nj ≤ cj := own_cap hpo
    have hN5 : Nj ≤ 5000 := by rw [← hNj]; exact HJS.out.p
    have HFL : Hid (bsP (fewQ rs) = J.L) := by
      show _ = _
      rw [fewQ_same (by have := HJS.out.l; rw [← hL, bsP_len] at this; exact this) (fun p hp => ⟨(hro.ok p hp).length, by have := HJS.out.b p.bs (hL ▸ List.mem_map_of_mem hp); have := (hro.ok p hp).length; omega⟩), hL]
    have HRB : Hid (PcsBy (fewQ rs)) := PcsBy.of (by rw [HFL.out]; exact HJB.out.2.2)
    clear hpo hqo hro hL
    have HBB7 := Lib.hid (below_then HBB6.out hbn)
    have HX7 := Lib.hid (HX6.out.later hbn)
    have HY7 := Lib.hid (HY6.out.later hbn)
    have HC7 := Lib.hid (HC6.out.later hbn)
    have HD7 := Lib.hid (HD6.out.later hbn)
    have HE7 := Lib.hid (HE6.out.later hbn)
    have HF7 := Lib.hid (HF6.out.later hbn)
    clear hbn
    go_wp2_with (with_reducible refine stop_store 101 _ _ rfl ?_)
    refine StopD.go ?_
    obtain ⟨g11, hg⟩ : ∃ g, w7.heap.size = g := ⟨_, rfl⟩
    have hbn : Below w7.heap.size w7 (w7.alloc (.cells #[.int .u8 0, .int .u8 0, .int .u8 0, .int .u8 0, .int .u8 0, .int .u8 0, .int .u8 0, .int .u8 0, .int .i64 0, .slice none 0 0, .slice none 0 0] 101)) := below_new w7 _
    have kt : Bk (w7.alloc (.cells #[.int .u8 0, .int .u8 0, .int .u8 0, .int .u8 0, .int .u8 0, .int .u8 0, .int .u8 0, .int .u8 0, .int .i64 0, .slice none 0 0, .slice none 0 0] 101)) g11 101 ([] ++ (sgC 0 zeroD (.slice none 0 0) (.slice none 0 0) ++ [])) := by rw [← hg]; exact Bk.new' w7 _ #[.int .u8 0, .int .u8 0, .int .u8 0, .int .u8 0, .int .u8 0, .int .u8 0, .int .u8 0, .int .u8 0, .int .i64 0, .slice none 0 0, .slice none 0 0] rfl
    rw [hg]
    refine wpList_store_part rfl 101 _ _ rfl g11 0 (.agg (sgC J.n J.t (.slice Pj Nj cj) (.slice Qj Mj dj)).toArray) (sgC J.n J.t (.slice Pj Nj cj) (.slice Qj Mj dj)) rfl rfl rfl 101 [] _ [] kt rfl (by rw [sgC_len HJT.out]; rfl) (sg_info HJT.out) sg_one ?_
    intro w8 hp
    have hbn : Below w7.heap.size w7 w8 := hbn.grown hp.only hbn.size (fun q hq => by injection hq with hq; omega)
    have HG8 : Hid (Bk w8 g11 101 (sgC J.n J.t (.slice Pj Nj cj) (.slice Qj Mj dj))) := by show Bk _ _ _ _; have := hp.bk; simpa using this
    clear hp kt hg
    have HBB8 := Lib.hid (below_then HBB7.out hbn)
    have HX8 := Lib.hid (HX7.out.later hbn)
    have HY8 := Lib.hid (HY7.out.later hbn)
    have HC8 := Lib.hid (HC7.out.later hbn)
    have HD8 := Lib.hid (HD7.out.later hbn)
    have HE8 := Lib.hid (HE7.out.later hbn)
    have HF8 := Lib.hid (HF7.out.later hbn)
    have HPJ8 := Lib.hid (HPJ7.out.later hbn)
    have HQJ8 := Lib.hid (HQJ7.out.later hbn)
    have HRJ8 := Lib.hid (HRJ7.out.later hbn)
    clear hbn
    go_wp2_with (first
      | ((with_reducible refine wpList_load_bk rfl 105 _ rfl (g7 + 1) rfl (sgC n t (.slice A KA C) (.slice Qx qx cx)) 105 HD8.out _ Try.underlying105 rfl (rsg_info HTO.out) ?_))
      | ((with_reducible refine wpList_load_bk rfl 105 _ rfl (g9 + 1) rfl (sgC n t (.slice A KB C) (.slice Qy qy cy)) 105 HF8.out _ Try.underlying105 rfl (rsg_info HUO.out) ?_)))
    refine (HJ2.out w8 C C Qx Qy cx cy (HXX.out.later HBB8.out) (HYY.out.later HBB8.out) HX8.out HY8.out (HPX0.out.later HBB8.out) (HPY0.out.later HBB8.out)).mono ?_
    rintro e w9 ⟨P2, Q2, N2, c2, M2, d2, rs2, rfl, h1, h2, h3, h4, hbn⟩
    have HPZ9 := Lib.hid h1; have HQZ9 := Lib.hid h2; have HRZ9 := Lib.hid h3; have HLZ := Lib.hid h4
    have HZB : Hid (PcsBy rs2) := PcsBy.of (by rw [h4]; exact HJB.out.2.2)
    clear h1 h2 h3 h4
    have HBB9 := Lib.hid (below_then HBB8.out hbn)
    have HX9 := Lib.hid (HX8.out.later hbn)
    have HY9 := Lib.hid (HY8.out.later hbn)
    have HC9 := Lib.hid (HC8.out.later hbn)
    have HD9 := Lib.hid (HD8.out.later hbn)
    have HE9 := Lib.hid (HE8.out.later hbn)
    have HF9 := Lib.hid (HF8.out.later hbn)
    have HG9 := Lib.hid (HG8.out.later hbn)
    have HPJ9 := Lib.hid (HPJ8.out.later hbn)
    have HQJ9 := Lib.hid (HQJ8.out.later hbn)
    have HRJ9 := Lib.hid (HRJ8.out.later hbn)
    clear hbn
    go_wp2_with (with_reducible refine stop_store 105 _ _ rfl ?_)
    refine StopD.go ?_
    obtain ⟨g13, hg⟩ : ∃ g, w9.heap.size = g := ⟨_, rfl⟩
    have hbn : Below w9.heap.size w9 (w9.alloc (.cells #[.int .u8 0, .int .u8 0, .int .u8 0, .int .u8 0, .int .u8 0, .int .u8 0, .int .u8 0, .int .u8 0, .int .i64 0, .slice none 0 0, .slice none 0 0] 105)) := below_new w9 _
    have kt : Bk (w9.alloc (.cells #[.int .u8 0, .int .u8 0, .int .u8 0, .int .u8 0, .int .u8 0, .int .u8 0, .int .u8 0, .int .u8 0, .int .i64 0, .slice none 0 0, .slice none 0 0] 105)) g13 105 ([] ++ (sgC 0 zeroD (.slice none 0 0) (.slice none 0 0) ++ [])) := by rw [← hg]; exact Bk.new' w9 _ #[.int .u8 0, .int .u8 0, .int .u8 0, .int .u8 0, .int .u8 0, .int .u8 0, .int .u8 0, .int .u8 0, .int .i64 0, .slice none 0 0, .slice none 0 0] rfl
    rw [hg]
    refine wpList_store_part rfl 105 _ _ rfl g13 0 (.agg (sgC J.n J.t (.slice P2 N2 c2) (.slice Q2 M2 d2)).toArray) (sgC J.n J.t (.slice P2 N2 c2) (.slice Q2 M2 d2)) rfl rfl rfl 105 [] _ [] kt rfl (by rw [sgC_len HJT.out]; rfl) (rsg_info HJT.out) sg_one ?_
    intro w10 hp
    have hbn : Below w9.heap.size w9 w10 := hbn.grown hp.only hbn.size (fun q hq => by injection hq with hq; omega)
    have HH10 : Hid (Bk w10 g13 105 (sgC J.n J.t (.slice P2 N2 c2) (.slice Q2 M2 d2))) := by show Bk _ _ _ _; have := hp.bk; simpa using this
    clear hp kt hg
    have HBB10 := Lib.hid (below_then HBB9.out hbn)
    have HX10 := Lib.hid (HX9.out.later hbn)
    have HY10 := Lib.hid (HY9.out.later hbn)
    have HC10 := Lib.hid (HC9.out.later hbn)
    have HD10 := Lib.hid (HD9.out.later hbn)
    have HE10 := Lib.hid (HE9.out.later hbn)
    have HF10 := Lib.hid (HF9.out.later hbn)
    have HG10 := Lib.hid (HG9.out.later hbn)
    have HPJ10 := Lib.hid (HPJ9.out.later hbn)
    have HQJ10 := Lib.hid (HQJ9.out.later hbn)
    have HRJ10 := Lib.hid (HRJ9.out.later hbn)
    have HPZ10 := Lib.hid (HPZ9.out.later hbn)
    have HQZ10 := Lib.hid (HQZ9.out.later hbn)
    have HRZ10 := Lib.hid (HRZ9.out.later hbn)
    clear hbn
    go_wp2_with (with_reducible refine wpList_load_bk rfl 101 _ rfl g11 rfl (sgC J.n J.t (.slice Pj Nj cj) (.slice Qj Mj dj)) 101 HG10.out _ Try.underlying101 rfl (sg_info HJT.out) ?_)
    have HPL3 := Lib.hid (plain_any w10 J.t HJT.out J.n Pj Qj Nj cj Mj dj hcj rs HQJ10.out HCJ.out)
    unfold RetPl at HPL3
    rw [Nat.min_eq_left hN5] at HPL3
    obtain ⟨qj, hqj⟩ : ∃ K, min rs.length 12 = K := ⟨_, rfl⟩
    rw [hqj] at HPL3
    refine HPL3.out.mono ?_
    rintro e w11 ⟨Qf, cf, rfl, hown, hbn⟩
    have HV11 := Lib.hid (Sl.of_own hown)
    clear hown hqj
    have HBB11 := Lib.hid (below_then HBB10.out hbn)
    have HX11 := Lib.hid (HX10.out.later hbn)
    have HY11 := Lib.hid (HY10.out.later hbn)
    have HC11 := Lib.hid (HC10.out.later hbn)
    have HD11 := Lib.hid (HD10.out.later hbn)
    have HE11 := Lib.hid (HE10.out.later hbn)
    have HF11 := Lib.hid (HF10.out.later hbn)
    have HH11 := Lib.hid (HH10.out.later hbn)
    have HPJ11 := Lib.hid (HPJ10.out.later hbn)
    have HRJ11 := Lib.hid (HRJ10.out.later hbn)
    have HPZ11 := Lib.hid (HPZ10.out.later hbn)
    have HQZ11 := Lib.hid (HQZ10.out.later hbn)
    have HRZ11 := Lib.hid (HRZ10.out.later hbn)
    clear hbn
    go_wp2_with (with_reducible refine stop_store 101 _ _ rfl ?_)
    refine StopD.go ?_
    obtain ⟨g15, hg⟩ : ∃ g, w11.heap.size = g := ⟨_, rfl⟩
    have hbn : Below w11.heap.size w11 ((w11.alloc (.cells #[.int .u8 0, .int .u8 0, .int .u8 0, .int .u8 0, .int .u8 0, .int .u8 0, .int .u8 0, .int .u8 0, .int .i64 0, .slice none 0 0, .slice none 0 0] 101)).alloc (.cells #[.int .u8 0, .int .u8 0, .int .u8 0, .int .u8 0, .int .u8 0, .int .u8 0, .int .u8 0, .int .u8 0, .int .i64 0, .slice none 0 0, .slice none 0 0] 105)) := (below_new w11 _).alloc (by simp) _
    have kt : Bk ((w11.alloc (.cells #[.int .u8 0, .int .u8 0, .int .u8 0, .int .u8 0, .int .u8 0, .int .u8 0, .int .u8 0, .int .u8 0, .int .i64 0, .slice none 0 0, .slice none 0 0] 101)).alloc (.cells #[.int .u8 0, .int .u8 0, .int .u8 0, .int .u8 0, .int .u8 0, .int .u8 0, .int .u8 0, .int .u8 0, .int .i64 0, .slice none 0 0, .slice none 0 0] 105)) g15 101 ([] ++ (sgC 0 zeroD (.slice none 0 0) (.slice none 0 0) ++ [])) := by rw [← hg]; exact (Bk.new' w11 _ #[.int .u8 0, .int .u8 0, .int .u8 0, .int .u8 0, .int .u8 0, .int .u8 0, .int .u8 0, .int .u8 0, .int .i64 0, .slice none 0 0, .slice none 0 0] rfl).alloc _
    have ku : Bk ((w11.alloc (.cells #[.int .u8 0, .int .u8 0, .int .u8 0, .int .u8 0, .int .u8 0, .int .u8 0, .int .u8 0, .int .u8 0, .int .i64 0, .slice none 0 0, .slice none 0 0] 101)).alloc (.cells #[.int .u8 0, .int .u8 0, .int .u8 0, .int .u8 0, .int .u8 0, .int .u8 0, .int .u8 0, .int .u8 0, .int .i64 0, .slice none 0 0, .slice none 0 0] 105)) (g15 + 1) 105 (sgC 0 zeroD (.slice none 0 0) (.slice none 0 0)) := by rw [← hg]; exact Bk.at_ _ _ _ (by simp) rfl
    rw [hg]
    refine wpList_store_part rfl 101 _ _ rfl g15 0 (.agg (sgC J.n J.t (.slice Pj Nj cj) (.slice Qf qj cf)).toArray) (sgC J.n J.t (.slice Pj Nj cj) (.slice Qf qj cf)) rfl rfl rfl 101 [] _ [] kt rfl (by rw [sgC_len HJT.out]; rfl) (sg_info HJT.out) sg_one ?_
    intro wq hp
    have hbn : Below w11.heap.size w11 wq := hbn.grown hp.only hbn.size (fun q hq => by injection hq with hq; omega)
    have kt : Bk wq g15 101 (sgC J.n J.t (.slice Pj Nj cj) (.slice Qf qj cf)) := by have := hp.bk; simpa using this
    have ku : Bk wq (g15 + 1) 105 ([] ++ (sgC 0 zeroD (.slice none 0 0) (.slice none 0 0) ++ [])) := by have := ku.grown hp.only (by intro h; injection h with h; omega); simpa using this
    clear hp
    go_wp2_with (with_reducible refine stop_store 105 _ _ rfl ?_)
    refine StopD.go ?_
    refine wpList_store_part rfl 105 _ _ rfl (g15 + 1) 0 (.agg (sgC J.n J.t (.slice Pj Nj cj) (.slice Qf qj cf)).toArray) (sgC J.n J.t (.slice Pj Nj cj) (.slice Qf qj cf)) rfl rfl rfl 105 [] _ [] ku rfl (by rw [sgC_len HJT.out]; rfl) (rsg_info HJT.out) sg_one ?_
    intro w12 hp
    have hbn : Below w11.heap.size w11 w12 := hbn.grown hp.only hbn.size (fun q hq => by injection hq with hq; omega)
    have HI12 : Hid (Bk w12 g15 101 (sgC J.n J.t (.slice Pj Nj cj) (.slice Qf qj cf))) := kt.grown hp.only (by intro h; injection h with h; omega)
    have HK12 : Hid (Bk w12 (g15 + 1) 105 (sgC J.n J.t (.slice Pj Nj cj) (.slice Qf qj cf))) := by show Bk _ _ _ _; have := hp.bk; simpa using this
    clear hp kt ku hg
    have HBB12 := Lib.hid (below_then HBB11.out hbn)
    have HX12 := Lib.hid (HX11.out.later hbn)
    have HY12 := Lib.hid (HY11.out.later hbn)
    have HC12 := Lib.hid (HC11.out.later hbn)
    have HD12 := Lib.hid (HD11.out.later hbn)
    have HE12 := Lib.hid (HE11.out.later hbn)
    have HF12 := Lib.hid (HF11.out.later hbn)
    have HH12 := Lib.hid (HH11.out.later hbn)
    have HPJ12 := Lib.hid (HPJ11.out.later hbn)
    have HRJ12 := Lib.hid (HRJ11.out.later hbn)
    have HPZ12 := Lib.hid (HPZ11.out.later hbn)
    have HQZ12 := Lib.hid (HQZ11.out.later hbn)
    have HRZ12 := Lib.hid (HRZ11.out.later hbn)
    have HV12 := Lib.hid (HV11.out.later hbn)
    clear hbn
    have hee : ((J.e : Int) == J.e) = true := by simp
    go_wp2_with fail
    refine wp_region_held_drew (S := fun w' => Bk w' g7 101 (sgC n t (.slice A KA C) (.slice Qx qx cx)) ∧ Bk w' (g7 + 1) 105 (sgC n t (.slice A KA C) (.slice Qx qx cx)) ∧ Bk w' g9 101 (sgC n t (.slice A KB C) (.slice Qy qy cy)) ∧ Bk w' (g9 + 1) 105 (sgC n t (.slice A KB C) (.slice Qy qy cy)) ∧ Bk w' g13 105 (sgC J.n J.t (.slice P2 N2 c2) (.slice Q2 M2 d2)) ∧ Bk w' (g15 + 1) 105 (sgC J.n J.t (.slice Pj Nj cj) (.slice Qf qj cf))) (by kernel_rfl) ⟨Bk.drew HC12.out, Bk.drew HD12.out, Bk.drew HE12.out, Bk.drew HF12.out, Bk.drew HH12.out, Bk.drew HK12.out⟩ (fun hHeld => ?_)
    refine wpAnyH_ready (rs := [0]) (by kernel_rfl) (by simp) ?_
    refine AllReadyH.cons rfl (fun K hK => ?_) AllReadyH.nil
    go_simp
    (go_at_call 45; refine (stold_any w12.drew).mono ?_; rintro e w13 ⟨rfl, hbn⟩; have hbn := (below_draws w12 _ 1).trans hbn; have HBB13 := Lib.hid (below_then HBB12.out hbn); have HX13 := Lib.hid (HX12.out.later hbn); have HY13 := Lib.hid (HY12.out.later hbn); have HC13 := Lib.hid (HC12.out.later hbn); have HD13 := Lib.hid (HD12.out.later hbn); have HE13 := Lib.hid (HE12.out.later hbn); have HF13 := Lib.hid (HF12.out.later hbn); have HH13 := Lib.hid (HH12.out.later hbn); have HK13 := Lib.hid (HK12.out.later hbn); have HPJ13 := Lib.hid (HPJ12.out.later hbn); have HRJ13 := Lib.hid (HRJ12.out.later hbn); have HPZ13 := Lib.hid (HPZ12.out.later hbn); have HQZ13 := Lib.hid (HQZ12.out.later hbn); have HRZ13 := Lib.hid (HRZ12.out.later hbn); have HV13 := Lib.hid (HV12.out.later hbn); clear hbn)
    refine hK.out _ _ (⟨HC13.out, HD13.out, HE13.out, HF13.out, HH13.out, HK13.out⟩) (fun hHeld => ?_)
    clear hK K
    try simp only [Act.put, List.setIfInBounds_toArray, List.set_cons_zero, List.set_cons_succ, List.getElem_toArray, List.getElem_cons_zero, List.getElem_cons_succ]
    refine wpAnyH_take (i := 1) (v := ?_) rfl (by kernel_rfl) (by kernel_rfl) (by kernel_rfl) (fun _ _ _ h => h) (Or.inl ⟨by rfl, ?_⟩) (by assumption) ?_
    rotate_left
    · intro w hSw
      (try dsimp only at hSw)
      go_simp
      try with_reducible rfl
    try simp only [Act.put, List.setIfInBounds_toArray, List.set_cons_zero, List.set_cons_succ, List.getElem_toArray, List.getElem_cons_zero, List.getElem_cons_succ]
    refine wpAnyH_take (i := 2) (v := ?_) rfl (by kernel_rfl) (by kernel_rfl) (by kernel_rfl) (fun _ _ _ h => h) (Or.inl ⟨by rfl, ?_⟩) (by assumption) ?_
    rotate_left
    · intro w hSw
      (try dsimp only at hSw)
      go_simp
      try with_reducible rfl
    try simp only [Act.put, List.setIfInBounds_toArray, List.set_cons_zero, List.set_cons_succ, List.getElem_toArray, List.getElem_cons_zero, List.getElem_cons_succ]
    refine wpAnyH_take (i := 3) (v := ?_) rfl (by kernel_rfl) (by kernel_rfl) (by kernel_rfl) (fun _ _ _ h => h) (Or.inl ⟨by rfl, ?_⟩) (by assumption) ?_
    rotate_left
    · intro w hSw
      (try dsimp only at hSw)
      go_simp
      try with_reducible rfl
    try simp only [Act.put, List.setIfInBounds_toArray, List.set_cons_zero, List.set_cons_succ, List.getElem_toArray, List.getElem_cons_zero, List.getElem_cons_succ]
    refine wpAnyH_take (i := 4) (v := ?_) rfl (by kernel_rfl) (by kernel_rfl) (by kernel_rfl) (fun _ _ _ h => h) (Or.inl ⟨by rfl, ?_⟩) (by assumption) ?_
    rotate_left
    · intro w hSw
      (try dsimp only at hSw)
      go_simp
      try with_reducible rfl
    try simp only [Act.put, List.setIfInBounds_toArray, List.set_cons_zero, List.set_cons_succ, List.getElem_toArray, List.getElem_cons_zero, List.getElem_cons_succ]
    refine wpAnyH_take (i := 5) (v := ?_) rfl (by kernel_rfl) (by kernel_rfl) (by kernel_rfl) (fun _ _ _ h => h) (Or.inl ⟨by rfl, ?_⟩) (by assumption) ?_
    rotate_left
    · intro w hSw
      (try dsimp only at hSw)
      go_simp
      try with_reducible rfl
    try simp only [Act.put, List.setIfInBounds_toArray, List.set_cons_zero, List.set_cons_succ, List.getElem_toArray, List.getElem_cons_zero, List.getElem_cons_succ]
    refine wpAnyH_take (i := 6) (v := ?_) rfl (by kernel_rfl) (by kernel_rfl) (by kernel_rfl) (fun _ _ _ h => h) (Or.inl ⟨by rfl, ?_⟩) (by assumption) ?_
    rotate_left
    · intro w hSw
      (try dsimp only at hSw)
      go_simp
      try with_reducible rfl
    try simp only [Act.put, List.setIfInBounds_toArray, List.set_cons_zero, List.set_cons_succ, List.getElem_toArray, List.getElem_cons_zero, List.getElem_cons_succ]
    refine wpAnyH_take (i := 7) (v := .agg (List.toArray (sgC J.n J.t (.slice Pj Nj cj) (.slice Qf qj cf)))) rfl (by kernel_rfl) (by kernel_rfl) (by kernel_rfl) (fun _ _ _ h => h) (yieldsIf_load_mid (by rfl) _ _ rfl _ _ rfl (sgC J.n J.t (.slice Pj Nj cj) (.slice Qf qj cf)) _ (fun w hSw => (Bk.range (pre := []) (post := []) (by simpa using hSw.2.2.2.2.2) rfl)) Try.underlying105 rfl ((rsg_info HJT.out))) (by assumption) ?_
    try simp only [Act.put, List.setIfInBounds_toArray, List.set_cons_zero, List.set_cons_succ, List.getElem_toArray, List.getElem_cons_zero, List.getElem_cons_succ]
    refine wpAnyH_take (i := 8) (v := .agg (List.toArray (sgC J.n J.t (.slice P2 N2 c2) (.slice Q2 M2 d2)))) rfl (by kernel_rfl) (by kernel_rfl) (by kernel_rfl) (fun _ _ _ h => h) (yieldsIf_load_mid (by rfl) _ _ rfl _ _ rfl (sgC J.n J.t (.slice P2 N2 c2) (.slice Q2 M2 d2)) _ (fun w hSw => (Bk.range (pre := []) (post := []) (by simpa using hSw.2.2.2.2.1) rfl)) Try.underlying105 rfl ((rsg_info HJT.out))) (by assumption) ?_
    try simp only [Act.put, List.setIfInBounds_toArray, List.set_cons_zero, List.set_cons_succ, List.getElem_toArray, List.getElem_cons_zero, List.getElem_cons_succ]
    refine wpAnyH_ready (rs := [9]) (by kernel_rfl) (by simp) ?_
    refine AllReadyH.cons rfl (fun K hK => ?_) AllReadyH.nil
    go_simp
    (go_at_call 55; refine (rsgSame_any w13 J.t J.t HJT.out HJT.out J.n J.n Pj P2 Qf Q2 Nj cj N2 c2 qj cf M2 d2 J.ps J.ps (fewQ rs) rs2 HPJ13.out HPZ13.out HJB.out.2.1 HJB.out.2.1 HV13.out HQZ13.out HRJ13.out.few HRZ13.out HRB.out HZB.out).mono ?_; rw [HFL.out, HLZ.out, sameG_self]; rintro e w14 ⟨rfl, hbn⟩; have HBB14 := Lib.hid (below_then HBB13.out hbn); have HX14 := Lib.hid (HX13.out.later hbn); have HY14 := Lib.hid (HY13.out.later hbn); have HC14 := Lib.hid (HC13.out.later hbn); have HD14 := Lib.hid (HD13.out.later hbn); have HE14 := Lib.hid (HE13.out.later hbn); have HF14 := Lib.hid (HF13.out.later hbn); have HH14 := Lib.hid (HH13.out.later hbn); have HK14 := Lib.hid (HK13.out.later hbn); clear hbn)
    refine hK.out _ _ (⟨HC14.out, HD14.out, HE14.out, HF14.out, HH14.out, HK14.out⟩) (fun hHeld => ?_)
    clear hK K
    try simp only [Act.put, List.setIfInBounds_toArray, List.set_cons_zero, List.set_cons_succ, List.getElem_toArray, List.getElem_cons_zero, List.getElem_cons_succ]
    refine wpAnyH_take (i := 10) (v := ?_) rfl (by kernel_rfl) (by kernel_rfl) (by kernel_rfl) (fun _ _ _ h => h) (Or.inl ⟨by rfl, ?_⟩) (by assumption) ?_
    rotate_left
    · intro w hSw
      (try dsimp only at hSw)
      go_simp
      try with_reducible rfl
    try simp only [Act.put, List.setIfInBounds_toArray, List.set_cons_zero, List.set_cons_succ, List.getElem_toArray, List.getElem_cons_zero, List.getElem_cons_succ]
    refine wpAnyH_take (i := 11) (v := ?_) rfl (by kernel_rfl) (by kernel_rfl) (by kernel_rfl) (fun _ _ _ h => h) (Or.inl ⟨by rfl, ?_⟩) (by assumption) ?_
    rotate_left
    · intro w hSw
      (try dsimp only at hSw)
      go_simp
      try with_reducible rfl
    try simp only [Act.put, List.setIfInBounds_toArray, List.set_cons_zero, List.set_cons_succ, List.getElem_toArray, List.getElem_cons_zero, List.getElem_cons_succ]
    refine wpAnyH_take (i := 12) (v := .agg (List.toArray (sgC n t (.slice A KA C) (.slice Qx qx cx)))) rfl (by kernel_rfl) (by kernel_rfl) (by kernel_rfl) (fun _ _ _ h => h) (yieldsIf_load_mid (by rfl) _ _ rfl _ _ rfl (sgC n t (.slice A KA C) (.slice Qx qx cx)) _ (fun w hSw => (Bk.range (pre := []) (post := []) (by simpa using hSw.1) rfl)) Try.underlying101 rfl ((sg_info HTO.out))) (by assumption) ?_
    try simp only [Act.put, List.setIfInBounds_toArray, List.set_cons_zero, List.set_cons_succ, List.getElem_toArray, List.getElem_cons_zero, List.getElem_cons_succ]
    refine wpAnyH_take (i := 13) (v := .agg (List.toArray (sgC n t (.slice A KB C) (.slice Qy qy cy)))) rfl (by kernel_rfl) (by kernel_rfl) (by kernel_rfl) (fun _ _ _ h => h) (yieldsIf_load_mid (by rfl) _ _ rfl _ _ rfl (sgC n t (.slice A KB C) (.slice Qy qy cy)) _ (fun w hSw => (Bk.range (pre := []) (post := []) (by simpa using hSw.2.2.1) rfl)) Try.underlying101 rfl ((sg_info HUO.out))) (by assumption) ?_
    try simp only [Act.put, List.setIfInBounds_toArray, List.set_cons_zero, List.set_cons_succ, List.getElem_toArray, List.getElem_cons_zero, List.getElem_cons_succ]
    refine wpAnyH_take (i := 15) (v := .agg (List.toArray (sgC n t (.slice A KA C) (.slice Qx qx cx)))) rfl (by kernel_rfl) (by kernel_rfl) (by kernel_rfl) (fun _ _ _ h => h) (yieldsIf_load_mid (by rfl) _ _ rfl _ _ rfl (sgC n t (.slice A KA C) (.slice Qx qx cx)) _ (fun w hSw => (Bk.range (pre := []) (post := []) (by simpa using hSw.2.1) rfl)) Try.underlying105 rfl ((rsg_info HTO.out))) (by assumption) ?_
    try simp only [Act.put, List.setIfInBounds_toArray, List.set_cons_zero, List.set_cons_succ, List.getElem_toArray, List.getElem_cons_zero, List.getElem_cons_succ]
    refine wpAnyH_take (i := 16) (v := .agg (List.toArray (sgC n t (.slice A KB C) (.slice Qy qy cy)))) rfl (by kernel_rfl) (by kernel_rfl) (by kernel_rfl) (fun _ _ _ h => h) (yieldsIf_load_mid (by rfl) _ _ rfl _ _ rfl (sgC n t (.slice A KB C) (.slice Qy qy cy)) _ (fun w hSw => (Bk.range (pre := []) (post := []) (by simpa using hSw.2.2.2.1) rfl)) Try.underlying105 rfl ((rsg_info HUO.out))) (by assumption) ?_
    try simp only [Act.put, List.setIfInBounds_toArray, List.set_cons_zero, List.set_cons_succ, List.getElem_toArray, List.getElem_cons_zero, List.getElem_cons_succ]
    obtain ⟨G, hG⟩ : ∃ G, sameG t t n n xs ys (bsP (fewQ qs)) (bsP (fewQ qs')) = G := ⟨_, rfl⟩
    have HGG := Lib.hid hG
    clear hG
    refine wpAnyH_ready (rs := [14]) (by kernel_rfl) (by simp) ?_
    refine AllReadyH.cons rfl (fun K hK => ?_) AllReadyH.nil
    go_simp
    (go_at_call 56; refine (sgSame_any w14 t t HTO.out HUO.out n n A A Qx Qy KA C KB C qx cx qy cy xs ys (fewQ qs) (fewQ qs') (HXX.out.later HBB14.out) (HYY.out.later HBB14.out) HXB.out HYB.out HX14.out HY14.out (HPX0.out.later HBB14.out) (HPY0.out.later HBB14.out) HPXB.out HPYB.out).mono ?_; rw [HGG.out]; rintro e w15 ⟨rfl, hbn⟩; have HBB15 := Lib.hid (below_then HBB14.out hbn); have HX15 := Lib.hid (HX14.out.later hbn); have HY15 := Lib.hid (HY14.out.later hbn); have HC15 := Lib.hid (HC14.out.later hbn); have HD15 := Lib.hid (HD14.out.later hbn); have HE15 := Lib.hid (HE14.out.later hbn); have HF15 := Lib.hid (HF14.out.later hbn); have HH15 := Lib.hid (HH14.out.later hbn); have HK15 := Lib.hid (HK14.out.later hbn); clear hbn)
    refine hK.out _ _ (⟨HC15.out, HD15.out, HE15.out, HF15.out, HH15.out, HK15.out⟩) (fun hHeld => ?_)
    clear hK K
    try simp only [Act.put, List.setIfInBounds_toArray, List.set_cons_zero, List.set_cons_succ, List.getElem_toArray, List.getElem_cons_zero, List.getElem_cons_succ]
    refine wpAnyH_ready (rs := [17]) (by kernel_rfl) (by simp) ?_
    refine AllReadyH.cons rfl (fun K hK => ?_) AllReadyH.nil
    go_simp
    (go_at_call 55; refine (rsgSame_any w15 t t HTO.out HUO.out n n A A Qx Qy KA C KB C qx cx qy cy xs ys (fewQ qs) (fewQ qs') (HXX.out.later HBB15.out) (HYY.out.later HBB15.out) HXB.out HYB.out HX15.out HY15.out (HPX0.out.later HBB15.out) (HPY0.out.later HBB15.out) HPXB.out HPYB.out).mono ?_; rw [HGG.out]; rintro e w16 ⟨rfl, hbn⟩; have HBB16 := Lib.hid (below_then HBB15.out hbn); have HX16 := Lib.hid (HX15.out.later hbn); have HY16 := Lib.hid (HY15.out.later hbn); have HC16 := Lib.hid (HC15.out.later hbn); have HD16 := Lib.hid (HD15.out.later hbn); have HE16 := Lib.hid (HE15.out.later hbn); have HF16 := Lib.hid (HF15.out.later hbn); have HH16 := Lib.hid (HH15.out.later hbn); have HK16 := Lib.hid (HK15.out.later hbn); clear hbn)
    refine hK.out _ _ (⟨HC16.out, HD16.out, HE16.out, HF16.out, HH16.out, HK16.out⟩) (fun hHeld => ?_)
    clear hK K
    try simp only [Act.put, List.setIfInBounds_toArray, List.set_cons_zero, List.set_cons_succ, List.getElem_toArray, List.getElem_cons_zero, List.getElem_cons_succ]
    refine wpAnyH_take (i := 18) (v := ?_) rfl (by kernel_rfl) (by kernel_rfl) (by kernel_rfl) (fun _ _ _ h => h) (Or.inl ⟨by rfl, ?_⟩) (by assumption) ?_
    rotate_left
    · intro w hSw
      (try dsimp only at hSw)
      go_simp
      try with_reducible rfl
    try simp only [Act.put, List.setIfInBounds_toArray, List.set_cons_zero, List.set_cons_succ, List.getElem_toArray, List.getElem_cons_zero, List.getElem_cons_succ]
    refine wpAnyH_take (i := 19) (v := ?_) rfl (by kernel_rfl) (by kernel_rfl) (by kernel_rfl) (fun _ _ _ h => h) (Or.inl ⟨by rfl, ?_⟩) (by assumption) ?_
    rotate_left
    · intro w hSw
      (try dsimp only at hSw)
      go_simp
      try with_reducible rfl
    try simp only [Act.put, List.setIfInBounds_toArray, List.set_cons_zero, List.set_cons_succ, List.getElem_toArray, List.getElem_cons_zero, List.getElem_cons_succ]
    refine wpAnyH_take (i := 20) (v := ?_) rfl (by kernel_rfl) (by kernel_rfl) (by kernel_rfl) (fun _ _ _ h => h) (Or.inl ⟨by rfl, ?_⟩) (by assumption) ?_
    rotate_left
    · intro w hSw
      (try dsimp only at hSw)
      go_simp
      try with_reducible rfl
    try simp only [Act.put, List.setIfInBounds_toArray, List.set_cons_zero, List.set_cons_succ, List.getElem_toArray, List.getElem_cons_zero, List.getElem_cons_succ]
    refine wpAnyH_take (i := 21) (v := .agg (List.toArray (sgC n t (.slice A KA C) (.slice Qx qx cx)))) rfl (by kernel_rfl) (by kernel_rfl) (by kernel_rfl) (fun _ _ _ h => h) (yieldsIf_load_mid (by rfl) _ _ rfl _ _ rfl (sgC n t (.slice A KA C) (.slice Qx qx cx)) _ (fun w hSw => (Bk.range (pre := []) (post := []) (by simpa using hSw.1) rfl)) Try.underlying101 rfl ((sg_info HTO.out))) (by assumption) ?_
    try simp only [Act.put, List.setIfInBounds_toArray, List.set_cons_zero, List.set_cons_succ, List.getElem_toArray, List.getElem_cons_zero, List.getElem_cons_succ]
    refine wpAnyH_take (i := 22) (v := .agg (List.toArray (sgC n t (.slice A KA C) (.slice Qx qx cx)))) rfl (by kernel_rfl) (by kernel_rfl) (by kernel_rfl) (fun _ _ _ h => h) (yieldsIf_load_mid (by rfl) _ _ rfl _ _ rfl (sgC n t (.slice A KA C) (.slice Qx qx cx)) _ (fun w hSw => (Bk.range (pre := []) (post := []) (by simpa using hSw.1) rfl)) Try.underlying101 rfl ((sg_info HTO.out))) (by assumption) ?_
    try simp only [Act.put, List.setIfInBounds_toArray, List.set_cons_zero, List.set_cons_succ, List.getElem_toArray, List.getElem_cons_zero, List.getElem_cons_succ]
    refine wpAnyH_ready (rs := [23]) (by kernel_rfl) (by simp) ?_
    refine AllReadyH.cons rfl (fun K hK => ?_) AllReadyH.nil
    go_simp
    (go_at_call 56; refine (sgSame_any w16 t t HTO.out HTO.out n n A A Qx Qx KA C KA C qx cx qx cx xs xs (fewQ qs) (fewQ qs) (HXX.out.later HBB16.out) (HXX.out.later HBB16.out) HXB.out HXB.out HX16.out HX16.out (HPX0.out.later HBB16.out) (HPX0.out.later HBB16.out) HPXB.out HPXB.out).mono ?_; rw [sameG_self]; rintro e w17 ⟨rfl, hbn⟩; have HBB17 := Lib.hid (below_then HBB16.out hbn); have HC17 := Lib.hid (HC16.out.later hbn); have HD17 := Lib.hid (HD16.out.later hbn); have HE17 := Lib.hid (HE16.out.later hbn); have HF17 := Lib.hid (HF16.out.later hbn); have HH17 := Lib.hid (HH16.out.later hbn); have HK17 := Lib.hid (HK16.out.later hbn); clear hbn)
    refine hK.out _ _ (⟨HC17.out, HD17.out, HE17.out, HF17.out, HH17.out, HK17.out⟩) (fun hHeld => ?_)
    clear hK K
    try simp only [Act.put, List.setIfInBounds_toArray, List.set_cons_zero, List.set_cons_succ, List.getElem_toArray, List.getElem_cons_zero, List.getElem_cons_succ]
    refine wpAnyH_take (i := 24) (v := ?_) rfl (by kernel_rfl) (by kernel_rfl) (by kernel_rfl) (fun _ _ _ h => h) (Or.inl ⟨by rfl, ?_⟩) (by assumption) ?_
    rotate_left
    · intro w hSw
      (try dsimp only at hSw)
      go_simp
      try with_reducible rfl
    try simp only [Act.put, List.setIfInBounds_toArray, List.set_cons_zero, List.set_cons_succ, List.getElem_toArray, List.getElem_cons_zero, List.getElem_cons_succ]
    refine wpAnyH_take (i := 25) (v := ?_) rfl (by kernel_rfl) (by kernel_rfl) (by kernel_rfl) (fun _ _ _ h => h) (Or.inl ⟨by rfl, ?_⟩) (by assumption) ?_
    rotate_left
    · intro w hSw
      (try dsimp only at hSw)
      go_simp
      try with_reducible rfl
    try simp only [Act.put, List.setIfInBounds_toArray, List.set_cons_zero, List.set_cons_succ, List.getElem_toArray, List.getElem_cons_zero, List.getElem_cons_succ]
    refine wpAnyH_done (by kernel_rfl) ?_ _
    clear hHeld
    go_wp2_with fail
    go_ret
    exact ⟨rfl, HBB17.out⟩
end Go.Proofs.Ythibihjblodfmaa
