/- Of all it is told whether they may be told, and their bytes: the walk of StateBytes. -/
import Derived.Test.YthibihjblodfmaaS29
namespace Go.Proofs.Ythibihjblodfmaa
open Go.RowKit Go.Maps

set_option maxRecDepth 20000 in
set_option maxHeartbeats 8000000 in
theorem sbytes_any (w : World) (X : List Value) (n : Int) (t ps : List Int) (L : List (List Int)) (h : Sgd w X n t ps L) :
    Calls Try.prog 14 #[.agg X.toArray] w fun e w' => e = .returned (.bool true) ∧ Below w.heap.size w w' := by
  obtain ⟨X0, hX⟩ : ∃ X0, X.toArray = X0 := ⟨_, rfl⟩
  obtain ⟨w1, hw1⟩ : ∃ w1, w.alloc (.cells X0 101) = w1 := ⟨_, rfl⟩
  have hb1 : Below w.heap.size w w1 := hw1 ▸ below_new w _
  have kx : Bk w1 w.heap.size 101 X := hw1 ▸ Bk.new' w _ X0 (by rw [← hX])
  have HW := Lib.hid hw1; have HBB1 := Lib.hid hb1; have HA1 := Lib.hid kx; have HX1 := Lib.hid (h.later hb1)
  have HSM := Lib.hid (fewL_small ps L)
  have HPB := Lib.hid (h.hp.take 5000); have HLB := Lib.hid (fewL_by h.hL); have HTO := Lib.hid h.ht
  have HPL := Lib.hid (plainV HX1.out)
  obtain ⟨xs, hxs⟩ : ∃ x, ps.take 5000 = x := ⟨_, rfl⟩
  obtain ⟨K0, hK⟩ : ∃ x, fewL L = x := ⟨_, rfl⟩
  rw [hxs] at HSM HPB HPL
  rw [hK] at HSM HLB HPL
  rw [hX]
  clear hX hw1 hb1 kx h hxs hK
  go_enter Try.func14, Try.ntmps14
  go_upto_region 1 with fail
  rw [HW.out]
  go_wp2_with (with_reducible refine wpList_load_bk rfl 101 _ rfl w.heap.size rfl X 101 HA1.out _ Try.underlying101 rfl HX1.out.info ?_)
  refine HPL.out.mono ?_
  rintro e w2 ⟨cs, rfl, hsg, hbn⟩
  have HS2 := Lib.hid hsg
  clear hsg
  have HBB2 := Lib.hid (below_then HBB1.out hbn)
  clear hbn
  go_wp2_with (with_reducible refine stop_store 101 _ _ rfl ?_)
  refine StopD.go ?_
  obtain ⟨g3, hg⟩ : ∃ g, w2.heap.size = g := ⟨_, rfl⟩
  have hbn : Below w2.heap.size w2 ((w2.alloc (.cells #[.int .u8 0, .int .u8 0, .int .u8 0, .int .u8 0, .int .u8 0, .int .u8 0, .int .u8 0, .int .u8 0, .int .i64 0, .slice none 0 0, .slice none 0 0] 101)).alloc (.cells #[.int .u8 0, .int .u8 0, .int .u8 0, .int .u8 0, .int .u8 0, .int .u8 0, .int .u8 0, .int .u8 0, .int .i64 0, .slice none 0 0, .slice none 0 0] 105)) := (below_new w2 _).alloc (by simp) _
  have kt : Bk ((w2.alloc (.cells #[.int .u8 0, .int .u8 0, .int .u8 0, .int .u8 0, .int .u8 0, .int .u8 0, .int .u8 0, .int .u8 0, .int .i64 0, .slice none 0 0, .slice none 0 0] 101)).alloc (.cells #[.int .u8 0, .int .u8 0, .int .u8 0, .int .u8 0, .int .u8 0, .int .u8 0, .int .u8 0, .int .u8 0, .int .i64 0, .slice none 0 0, .slice none 0 0] 105)) g3 101 ([] ++ (sgC 0 zeroD (.slice none 0 0) (.slice none 0 0) ++ [])) := by rw [← hg]; exact (Bk.new' w2 _ #[.int .u8 0, .int .u8 0, .int .u8 0, .int .u8 0, .int .u8 0, .int .u8 0, .int .u8 0, .int .u8 0, .int .i64 0, .slice none 0 0, .slice none 0 0] rfl).alloc _
  have ku : Bk ((w2.alloc (.cells #[.int .u8 0, .int .u8 0, .int .u8 0, .int .u8 0, .int .u8 0, .int .u8 0, .int .u8 0, .int .u8 0, .int .i64 0, .slice none 0 0, .slice none 0 0] 101)).alloc (.cells #[.int .u8 0, .int .u8 0, .int .u8 0, .int .u8 0, .int .u8 0, .int .u8 0, .int .u8 0, .int .u8 0, .int .i64 0, .slice none 0 0, .slice none 0 0] 105)) (g3 + 1) 105 (sgC 0 zeroD (.slice none 0 0) (.slice none 0 0)) := by rw [← hg]; exact Bk.at_ _ _ _ (by simp) rfl
  rw [hg]
  refine wpList_store_part rfl 101 _ _ rfl g3 0 (.agg (cs).toArray) (cs) rfl rfl rfl 101 [] _ [] kt rfl (by rw [HS2.out.len]; rfl) HS2.out.info HS2.out.one ?_
  intro wq hp
  have hbn : Below w2.heap.size w2 wq := hbn.grown hp.only hbn.size (fun q hq => by injection hq with hq; omega)
  have kt : Bk wq g3 101 (cs) := by have := hp.bk; simpa using this
  have ku : Bk wq (g3 + 1) 105 ([] ++ (sgC 0 zeroD (.slice none 0 0) (.slice none 0 0) ++ [])) := by have := ku.grown hp.only (by intro h; injection h with h; omega); simpa using this
  clear hp
  go_wp2_with (with_reducible refine stop_store 105 _ _ rfl ?_)
  refine StopD.go ?_
  refine wpList_store_part rfl 105 _ _ rfl (g3 + 1) 0 (.agg (cs).toArray) (cs) rfl rfl rfl 105 [] _ [] ku rfl (by rw [HS2.out.len]; rfl) HS2.out.rinfo HS2.out.one ?_
  intro w3 hp
  have hbn : Below w2.heap.size w2 w3 := hbn.grown hp.only hbn.size (fun q hq => by injection hq with hq; omega)
  have HC3 : Hid (Bk w3 g3 101 (cs)) := kt.grown hp.only (by intro h; injection h with h; omega)
  have HD3 : Hid (Bk w3 (g3 + 1) 105 (cs)) := by show Bk _ _ _ _; have := hp.bk; simpa using this
  clear hp kt ku hg
  have HBB3 := Lib.hid (below_then HBB2.out hbn)
  have HS3 := Lib.hid (HS2.out.later hbn)
  clear hbn
  have HEN := Lib.hid (encV HS3.out)
  obtain ⟨ok, hok⟩ : ∃ b, okG n xs K0 = b := ⟨_, rfl⟩
  have HOK := Lib.hid hok
  rw [hok] at HEN
  clear hok
  go_wp2_with (with_reducible refine wpList_load_bk rfl 101 _ rfl g3 rfl cs 101 HC3.out _ Try.underlying101 rfl HS3.out.info ?_)
  refine HEN.out.mono ?_
  rintro e w4 ⟨v, rfl, hown, hbn⟩
  have HRI := Lib.hid (rightV (HS3.out.later hbn))
  rw [HOK.out] at HRI
  have HO4 := Lib.hid hown
  clear hown
  have HBB4 := Lib.hid (below_then HBB3.out hbn)
  have HS4 := Lib.hid (HS3.out.later hbn)
  have HC4 := Lib.hid (HC3.out.later hbn)
  have HD4 := Lib.hid (HD3.out.later hbn)
  clear hbn
  cases ok
  · obtain ⟨A4, c4, rfl⟩ := own_form HO4.out
    rw [show (if (false : Bool) = true then encG t n.toNat xs K0 else []).length = 0 from rfl, show (if (false : Bool) = true then (0 : Int) else 2) = 2 from rfl]
    go_wp2_with (with_reducible refine wpList_load_bk rfl 105 _ rfl (g3 + 1) rfl cs 105 HD4.out _ Try.underlying105 rfl HS4.out.rinfo ?_)
    refine HRI.out.mono ?_
    rintro e w5 ⟨rfl, hbn⟩
    have HBB5 := Lib.hid (below_then HBB4.out hbn)
    clear hbn
    go_wp2_with fail
    refine (stold_any w5).mono ?_
    rintro e w6 ⟨rfl, hbn⟩
    have HBB6 := Lib.hid (below_then HBB5.out hbn)
    clear hbn
    go_wp2_with fail
    go_ret
    exact ⟨rfl, HBB6.out⟩
  · obtain ⟨f0, f1, f2, f3, f4, f5⟩ := okG_facts HOK.out
    have HENO : Hid (encG t n.toNat xs K0 = encG t n.toNat xs K0) := rfl
    have HDE := Lib.hid (dec_told (t := t) (n := n.toNat) HTO.out.len (by omega) f2 f3 f4 f5)
    rw [Int.toNat_of_nonneg f0] at HDE
    have hEL : (encG t n.toNat xs K0).length ≤ 100000 := by
      have h1 := encH_le (t := t) (ps := xs) (n := n.toNat) (M := K0.length) HTO.out
      have h2 := encS_le K0 f5
      rw [encG, List.length_append]; omega
    have HEB : Hid (ByOk (encG t n.toNat xs K0)) := byOk_app (encH_ok HTO.out HPB.out (by omega) (by omega) (by omega)) (encS_ok fun x hx => ⟨HLB.out x hx, f5 x hx⟩)
    have HO5 : Hid (w4.ownsRow w3.heap.size 5 1 v (encG t n.toNat xs K0).length ((encG t n.toNat xs K0).map (.int .u8))) := HO4.out
    have HRE : Hid (∀ w', Sgd w' cs n t xs K0 → Calls Try.prog 61 #[.agg cs.toArray] w' (RetB w'.heap.size (encG t n.toNat xs K0) w')) := fun w' h => rencV h HOK.out
    obtain ⟨E, hE⟩ : ∃ E, encG t n.toNat xs K0 = E := ⟨_, rfl⟩
    rw [hE] at HO5 HEB hEL HDE HRE
    rw [show (if (true : Bool) = true then (0 : Int) else 2) = 0 from rfl]
    obtain ⟨A4, c4, rfl⟩ := own_form HO5.out
    have HE4 := Lib.hid (Sl.of_own HO5.out)
    clear f0 f1 f2 f3 f4 f5 hE HENO HO4
    go_wp2_with (with_reducible refine wpList_load_bk rfl 105 _ rfl (g3 + 1) rfl cs 105 HD4.out _ Try.underlying105 rfl HS4.out.rinfo ?_)
    refine HRI.out.mono ?_
    rintro e w5 ⟨rfl, hbn⟩
    have HBB5 := Lib.hid (below_then HBB4.out hbn)
    have HS5 := Lib.hid (HS4.out.later hbn)
    have HC5 := Lib.hid (HC4.out.later hbn)
    have HD5 := Lib.hid (HD4.out.later hbn)
    have HE5 := Lib.hid (HE4.out.later hbn)
    clear hbn
    have HDV := Lib.hid (decV (c := c4) HEB.out HE5.out (by omega))
    rw [HDE.out] at HDV
    go_wp2_with fail
    refine HDV.out.mono ?_
    rintro e w6 ⟨ds, rfl, hsg, hbn⟩
    have HT6 : Hid (Sgd w6 ds n t xs K0) := hsg
    clear hsg
    have HBB6 := Lib.hid (below_then HBB5.out hbn)
    have HS6 := Lib.hid (HS5.out.later hbn)
    have HC6 := Lib.hid (HC5.out.later hbn)
    have HD6 := Lib.hid (HD5.out.later hbn)
    have HE6 := Lib.hid (HE5.out.later hbn)
    clear hbn
    go_wp2_with (with_reducible refine stop_store 101 _ _ rfl ?_)
    refine StopD.go ?_
    obtain ⟨g7, hg⟩ : ∃ g, w6.heap.size = g := ⟨_, rfl⟩
    have hbn : Below w6.heap.size w6 (w6.alloc (.cells #[.int .u8 0, .int .u8 0, .int .u8 0, .int .u8 0, .int .u8 0, .int .u8 0, .int .u8 0, .int .u8 0, .int .i64 0, .slice none 0 0, .slice none 0 0] 101)) := below_new w6 _
    have kt : Bk (w6.alloc (.cells #[.int .u8 0, .int .u8 0, .int .u8 0, .int .u8 0, .int .u8 0, .int .u8 0, .int .u8 0, .int .u8 0, .int .i64 0, .slice none 0 0, .slice none 0 0] 101)) g7 101 ([] ++ (sgC 0 zeroD (.slice none 0 0) (.slice none 0 0) ++ [])) := by rw [← hg]; exact Bk.new' w6 _ #[.int .u8 0, .int .u8 0, .int .u8 0, .int .u8 0, .int .u8 0, .int .u8 0, .int .u8 0, .int .u8 0, .int .i64 0, .slice none 0 0, .slice none 0 0] rfl
    rw [hg]
    refine wpList_store_part rfl 101 _ _ rfl g7 0 (.agg (ds).toArray) (ds) rfl rfl rfl 101 [] _ [] kt rfl (by rw [HT6.out.len]; rfl) (HT6.out.info) HT6.out.one ?_
    intro w7 hp
    have hbn : Below w6.heap.size w6 w7 := hbn.grown hp.only hbn.size (fun q hq => by injection hq with hq; omega)
    have HF7 : Hid (Bk w7 g7 101 (ds)) := by show Bk _ _ _ _; have := hp.bk; simpa using this
    clear hp kt hg
    have HBB7 := Lib.hid (below_then HBB6.out hbn)
    have HS7 := Lib.hid (HS6.out.later hbn)
    have HC7 := Lib.hid (HC6.out.later hbn)
    have HD7 := Lib.hid (HD6.out.later hbn)
    have HE7 := Lib.hid (HE6.out.later hbn)
    have HT7 := Lib.hid (HT6.out.later hbn)
    clear hbn
    go_wp2_with (with_reducible refine wpList_load_bk rfl 101 _ rfl g7 rfl ds 101 HF7.out _ Try.underlying101 rfl HT7.out.info ?_)
    refine (plainV HT7.out).mono ?_
    obtain ⟨s1, s2⟩ := fewL_same HSM.out
    rw [s1, s2]
    rintro e w8 ⟨es, rfl, hsg, hbn⟩
    have HU8 := Lib.hid hsg
    clear hsg s1 s2
    have HBB8 := Lib.hid (below_then HBB7.out hbn)
    have HS8 := Lib.hid (HS7.out.later hbn)
    have HC8 := Lib.hid (HC7.out.later hbn)
    have HD8 := Lib.hid (HD7.out.later hbn)
    have HE8 := Lib.hid (HE7.out.later hbn)
    have HT8 := Lib.hid (HT7.out.later hbn)
    have HF8 := Lib.hid (HF7.out.later hbn)
    clear hbn
    go_wp2_with (with_reducible refine stop_store 101 _ _ rfl ?_)
    refine StopD.go ?_
    obtain ⟨g9, hg⟩ : ∃ g, w8.heap.size = g := ⟨_, rfl⟩
    have hbn : Below w8.heap.size w8 ((w8.alloc (.cells #[.int .u8 0, .int .u8 0, .int .u8 0, .int .u8 0, .int .u8 0, .int .u8 0, .int .u8 0, .int .u8 0, .int .i64 0, .slice none 0 0, .slice none 0 0] 101)).alloc (.cells #[.int .u8 0, .int .u8 0, .int .u8 0, .int .u8 0, .int .u8 0, .int .u8 0, .int .u8 0, .int .u8 0, .int .i64 0, .slice none 0 0, .slice none 0 0] 105)) := (below_new w8 _).alloc (by simp) _
    have kt : Bk ((w8.alloc (.cells #[.int .u8 0, .int .u8 0, .int .u8 0, .int .u8 0, .int .u8 0, .int .u8 0, .int .u8 0, .int .u8 0, .int .i64 0, .slice none 0 0, .slice none 0 0] 101)).alloc (.cells #[.int .u8 0, .int .u8 0, .int .u8 0, .int .u8 0, .int .u8 0, .int .u8 0, .int .u8 0, .int .u8 0, .int .i64 0, .slice none 0 0, .slice none 0 0] 105)) g9 101 ([] ++ (sgC 0 zeroD (.slice none 0 0) (.slice none 0 0) ++ [])) := by rw [← hg]; exact (Bk.new' w8 _ #[.int .u8 0, .int .u8 0, .int .u8 0, .int .u8 0, .int .u8 0, .int .u8 0, .int .u8 0, .int .u8 0, .int .i64 0, .slice none 0 0, .slice none 0 0] rfl).alloc _
    have ku : Bk ((w8.alloc (.cells #[.int .u8 0, .int .u8 0, .int .u8 0, .int .u8 0, .int .u8 0, .int .u8 0, .int .u8 0, .int .u8 0, .int .i64 0, .slice none 0 0, .slice none 0 0] 101)).alloc (.cells #[.int .u8 0, .int .u8 0, .int .u8 0, .int .u8 0, .int .u8 0, .int .u8 0, .int .u8 0, .int .u8 0, .int .i64 0, .slice none 0 0, .slice none 0 0] 105)) (g9 + 1) 105 (sgC 0 zeroD (.slice none 0 0) (.slice none 0 0)) := by rw [← hg]; exact Bk.at_ _ _ _ (by simp) rfl
    rw [hg]
    refine wpList_store_part rfl 101 _ _ rfl g9 0 (.agg (es).toArray) (es) rfl rfl rfl 101 [] _ [] kt rfl (by rw [HU8.out.len]; rfl) HU8.out.info HU8.out.one ?_
    intro wq hp
    have hbn : Below w8.heap.size w8 wq := hbn.grown hp.only hbn.size (fun q hq => by injection hq with hq; omega)
    have kt : Bk wq g9 101 (es) := by have := hp.bk; simpa using this
    have ku : Bk wq (g9 + 1) 105 ([] ++ (sgC 0 zeroD (.slice none 0 0) (.slice none 0 0) ++ [])) := by have := ku.grown hp.only (by intro h; injection h with h; omega); simpa using this
    clear hp
    go_wp2_with (with_reducible refine stop_store 105 _ _ rfl ?_)
    refine StopD.go ?_
    refine wpList_store_part rfl 105 _ _ rfl (g9 + 1) 0 (.agg (es).toArray) (es) rfl rfl rfl 105 [] _ [] ku rfl (by rw [HU8.out.len]; rfl) HU8.out.rinfo HU8.out.one ?_
    intro w9 hp
    have hbn : Below w8.heap.size w8 w9 := hbn.grown hp.only hbn.size (fun q hq => by injection hq with hq; omega)
    have HG9 : Hid (Bk w9 g9 101 (es)) := kt.grown hp.only (by intro h; injection h with h; omega)
    have HH9 : Hid (Bk w9 (g9 + 1) 105 (es)) := by show Bk _ _ _ _; have := hp.bk; simpa using this
    clear hp kt ku hg
    have HBB9 := Lib.hid (below_then HBB8.out hbn)
    have HS9 := Lib.hid (HS8.out.later hbn)
    have HC9 := Lib.hid (HC8.out.later hbn)
    have HD9 := Lib.hid (HD8.out.later hbn)
    have HE9 := Lib.hid (HE8.out.later hbn)
    have HT9 := Lib.hid (HT8.out.later hbn)
    have HF9 := Lib.hid (HF8.out.later hbn)
    have HU9 := Lib.hid (HU8.out.later hbn)
    clear hbn
    obtain ⟨B9, hB9⟩ : ∃ B, w9.heap.size = B := ⟨_, rfl⟩
    have HEB9 : Hid (Sl w9 B9 1 (some (⟨0, 0, none⟩ : Addr)) 0 []) := Sl.nil
    have hEs : Sl w9 B9 1 A4 E.length (E.map (.int .u8)) := by rw [← hB9]; exact HE9.out
    go_wp2_with fail
    refine wp_region_held_drew (S := fun w' => Bk w' g3 101 cs ∧ Bk w' (g3 + 1) 105 cs ∧ Bk w' g7 101 ds ∧ Bk w' (g9 + 1) 105 es ∧ Sl w' B9 1 A4 E.length (E.map (.int .u8))) (by kernel_rfl) ⟨Bk.drew HC9.out, Bk.drew HD9.out, Bk.drew HF9.out, Bk.drew HH9.out, hEs.drew⟩ (fun hHeld => ?_)
    have HES := Lib.hid hEs
    have HBW : Hid (B9 ≤ w9.heap.size) := by show _ ≤ _; omega
    clear hEs hB9 HEB9
    refine wpAnyH_ready (rs := [0]) (by kernel_rfl) (by simp) ?_
    refine AllReadyH.cons rfl (fun K hK => ?_) AllReadyH.nil
    go_simp
    (go_at_call 45; refine (stold_any w9.drew).mono ?_; rintro e w10 ⟨rfl, hbn⟩; have hbn := (below_draws w9 _ 1).trans hbn; have HES10 := Lib.hid (HES.out.below (hbn.mono HBW.out)); have HBW10 : Hid (B9 ≤ w10.heap.size) := Nat.le_trans HBW.out hbn.size; have HBB10 := Lib.hid (below_then HBB9.out hbn); have HS10 := Lib.hid (HS9.out.later hbn); have HC10 := Lib.hid (HC9.out.later hbn); have HD10 := Lib.hid (HD9.out.later hbn); have HT10 := Lib.hid (HT9.out.later hbn); have HF10 := Lib.hid (HF9.out.later hbn); have HU10 := Lib.hid (HU9.out.later hbn); have HH10 := Lib.hid (HH9.out.later hbn); clear hbn)
    refine hK.out _ _ (⟨HC10.out, HD10.out, HF10.out, HH10.out, HES10.out⟩) (fun hHeld => ?_)
    clear hK K
    try simp only [Act.put, List.setIfInBounds_toArray, List.set_cons_zero, List.set_cons_succ, List.getElem_toArray, List.getElem_cons_zero, List.getElem_cons_succ]
    refine wpAnyH_take (i := 1) (v := ?_) rfl (by kernel_rfl) (by kernel_rfl) (by kernel_rfl) (fun _ _ _ h => h) (Or.inl ⟨by rfl, ?_⟩) (by assumption) ?_
    rotate_left
    · intro w hSw
      (try dsimp only at hSw)
      go_simp
      try with_reducible rfl
    try simp only [Act.put, List.setIfInBounds_toArray, List.set_cons_zero, List.set_cons_succ, List.getElem_toArray, List.getElem_cons_zero, List.getElem_cons_succ]
    refine wpAnyH_take (i := 2) (v := ?_) rfl (by kernel_rfl) (by kernel_rfl) (by kernel_rfl) (fun _ _ _ h => h) (Or.inl ⟨by rfl, ?_⟩) (by assumption) ?_
    rotate_left
    · intro w hSw
      (try dsimp only at hSw)
      go_simp
      try with_reducible rfl
    try simp only [Act.put, List.setIfInBounds_toArray, List.set_cons_zero, List.set_cons_succ, List.getElem_toArray, List.getElem_cons_zero, List.getElem_cons_succ]
    refine wpAnyH_take (i := 3) (v := ?_) rfl (by kernel_rfl) (by kernel_rfl) (by kernel_rfl) (fun _ _ _ h => h) (Or.inl ⟨by rfl, ?_⟩) (by assumption) ?_
    rotate_left
    · intro w hSw
      (try dsimp only at hSw)
      go_simp
      try with_reducible rfl
    try simp only [Act.put, List.setIfInBounds_toArray, List.set_cons_zero, List.set_cons_succ, List.getElem_toArray, List.getElem_cons_zero, List.getElem_cons_succ]
    refine wpAnyH_take (i := 4) (v := ?_) rfl (by kernel_rfl) (by kernel_rfl) (by kernel_rfl) (fun _ _ _ h => h) (Or.inl ⟨by rfl, ?_⟩) (by assumption) ?_
    rotate_left
    · intro w hSw
      (try dsimp only at hSw)
      go_simp
      try with_reducible rfl
    try simp only [Act.put, List.setIfInBounds_toArray, List.set_cons_zero, List.set_cons_succ, List.getElem_toArray, List.getElem_cons_zero, List.getElem_cons_succ]
    refine wpAnyH_take (i := 5) (v := ?_) rfl (by kernel_rfl) (by kernel_rfl) (by kernel_rfl) (fun _ _ _ h => h) (Or.inl ⟨by rfl, ?_⟩) (by assumption) ?_
    rotate_left
    · intro w hSw
      (try dsimp only at hSw)
      go_simp
      try with_reducible rfl
    try simp only [Act.put, List.setIfInBounds_toArray, List.set_cons_zero, List.set_cons_succ, List.getElem_toArray, List.getElem_cons_zero, List.getElem_cons_succ]
    refine wpAnyH_take (i := 6) (v := ?_) rfl (by kernel_rfl) (by kernel_rfl) (by kernel_rfl) (fun _ _ _ h => h) (Or.inl ⟨by rfl, ?_⟩) (by assumption) ?_
    rotate_left
    · intro w hSw
      (try dsimp only at hSw)
      go_simp
      try with_reducible rfl
    try simp only [Act.put, List.setIfInBounds_toArray, List.set_cons_zero, List.set_cons_succ, List.getElem_toArray, List.getElem_cons_zero, List.getElem_cons_succ]
    refine wpAnyH_take (i := 8) (v := .agg (List.toArray (cs))) rfl (by kernel_rfl) (by kernel_rfl) (by kernel_rfl) (fun _ _ _ h => h) (yieldsIf_load_mid (by rfl) _ _ rfl _ _ rfl (cs) _ (fun w hSw => (Bk.range (pre := []) (post := []) (by simpa using hSw.2.1) rfl)) Try.underlying105 rfl (HS10.out.rinfo)) (by assumption) ?_
    try simp only [Act.put, List.setIfInBounds_toArray, List.set_cons_zero, List.set_cons_succ, List.getElem_toArray, List.getElem_cons_zero, List.getElem_cons_succ]
    refine wpAnyH_take (i := 7) (v := ?_) rfl (by kernel_rfl) (by kernel_rfl) (by kernel_rfl) (fun _ _ _ h => h) (Or.inl ⟨by rfl, ?_⟩) (by assumption) ?_
    rotate_left
    · intro w hSw
      have hcell := (conv_any w _ _ _ c4 E hSw.2.2.2.2)
      clear hSw
      go_simp
      try with_reducible rfl
    try simp only [Act.put, List.setIfInBounds_toArray, List.set_cons_zero, List.set_cons_succ, List.getElem_toArray, List.getElem_cons_zero, List.getElem_cons_succ]
    refine wpAnyH_ready (rs := [9]) (by kernel_rfl) (by simp) ?_
    refine AllReadyH.cons rfl (fun K hK => ?_) AllReadyH.nil
    go_simp
    (go_at_call 61; refine (HRE.out w10 HS10.out).mono ?_; rintro e w11 ⟨v11, rfl, hown⟩; have hbn : Below w10.heap.size w10 w11 := hown.2; obtain ⟨A11, c11, rfl⟩ := hown.form; have hcv := conv_any w11 _ A11 E.length c11 E (Sl.of_own hown.1); have HES11 := Lib.hid (HES10.out.below (hbn.mono HBW10.out)); have HBW11 : Hid (B9 ≤ w11.heap.size) := Nat.le_trans HBW10.out hbn.size; clear hown; have HBB11 := Lib.hid (below_then HBB10.out hbn); have HS11 := Lib.hid (HS10.out.later hbn); have HC11 := Lib.hid (HC10.out.later hbn); have HD11 := Lib.hid (HD10.out.later hbn); have HT11 := Lib.hid (HT10.out.later hbn); have HF11 := Lib.hid (HF10.out.later hbn); have HU11 := Lib.hid (HU10.out.later hbn); have HH11 := Lib.hid (HH10.out.later hbn); clear hbn)
    refine hK.out _ _ (⟨HC11.out, HD11.out, HF11.out, HH11.out, HES11.out⟩) (fun hHeld => ?_)
    clear hK K
    try simp only [Act.put, List.setIfInBounds_toArray, List.set_cons_zero, List.set_cons_succ, List.getElem_toArray, List.getElem_cons_zero, List.getElem_cons_succ]
    have hst : ((strOf E).toList == (strOf E).toList) = true := by simp
    obtain ⟨s, hs⟩ : ∃ s, strOf E = s := ⟨_, rfl⟩
    rw [hs] at hcv hst ⊢
    refine wpAnyH_ready (rs := [10]) (by kernel_rfl) (by simp) ?_
    refine AllReadyH.cons rfl (fun K hK => ?_) AllReadyH.nil
    go_simp
    skip
    refine hK.out _ _ (⟨HC11.out, HD11.out, HF11.out, HH11.out, HES11.out⟩) (fun hHeld => ?_)
    clear hK K
    try simp only [Act.put, List.setIfInBounds_toArray, List.set_cons_zero, List.set_cons_succ, List.getElem_toArray, List.getElem_cons_zero, List.getElem_cons_succ]
    clear hcv hs
    refine wpAnyH_take (i := 11) (v := ?_) rfl (by kernel_rfl) (by kernel_rfl) (by kernel_rfl) (fun _ _ _ h => h) (Or.inl ⟨by rfl, ?_⟩) (by assumption) ?_
    rotate_left
    · intro w hSw
      (try dsimp only at hSw)
      go_simp
      try with_reducible rfl
    try simp only [Act.put, List.setIfInBounds_toArray, List.set_cons_zero, List.set_cons_succ, List.getElem_toArray, List.getElem_cons_zero, List.getElem_cons_succ]
    refine wpAnyH_take (i := 12) (v := ?_) rfl (by kernel_rfl) (by kernel_rfl) (by kernel_rfl) (fun _ _ _ h => h) (Or.inl ⟨by rfl, ?_⟩) (by assumption) ?_
    rotate_left
    · intro w hSw
      (try dsimp only at hSw)
      go_simp
      try with_reducible rfl
    try simp only [Act.put, List.setIfInBounds_toArray, List.set_cons_zero, List.set_cons_succ, List.getElem_toArray, List.getElem_cons_zero, List.getElem_cons_succ]
    refine wpAnyH_take (i := 13) (v := ?_) rfl (by kernel_rfl) (by kernel_rfl) (by kernel_rfl) (fun _ _ _ h => h) (Or.inl ⟨by rfl, ?_⟩) (by assumption) ?_
    rotate_left
    · intro w hSw
      (try dsimp only at hSw)
      go_simp
      try with_reducible rfl
    try simp only [Act.put, List.setIfInBounds_toArray, List.set_cons_zero, List.set_cons_succ, List.getElem_toArray, List.getElem_cons_zero, List.getElem_cons_succ]
    refine wpAnyH_take (i := 14) (v := ?_) rfl (by kernel_rfl) (by kernel_rfl) (by kernel_rfl) (fun _ _ _ h => h) (Or.inl ⟨by rfl, ?_⟩) (by assumption) ?_
    rotate_left
    · intro w hSw
      (try dsimp only at hSw)
      go_simp
      try with_reducible rfl
    try simp only [Act.put, List.setIfInBounds_toArray, List.set_cons_zero, List.set_cons_succ, List.getElem_toArray, List.getElem_cons_zero, List.getElem_cons_succ]
    refine wpAnyH_take (i := 15) (v := ?_) rfl (by kernel_rfl) (by kernel_rfl) (by kernel_rfl) (fun _ _ _ h => h) (Or.inl ⟨by rfl, ?_⟩) (by assumption) ?_
    rotate_left
    · intro w hSw
      (try dsimp only at hSw)
      go_simp
      try with_reducible rfl
    try simp only [Act.put, List.setIfInBounds_toArray, List.set_cons_zero, List.set_cons_succ, List.getElem_toArray, List.getElem_cons_zero, List.getElem_cons_succ]
    refine wpAnyH_take (i := 16) (v := ?_) rfl (by kernel_rfl) (by kernel_rfl) (by kernel_rfl) (fun _ _ _ h => h) (Or.inl ⟨by rfl, ?_⟩) (by assumption) ?_
    rotate_left
    · intro w hSw
      (try dsimp only at hSw)
      go_simp
      try with_reducible rfl
    try simp only [Act.put, List.setIfInBounds_toArray, List.set_cons_zero, List.set_cons_succ, List.getElem_toArray, List.getElem_cons_zero, List.getElem_cons_succ]
    refine wpAnyH_take (i := 17) (v := ?_) rfl (by kernel_rfl) (by kernel_rfl) (by kernel_rfl) (fun _ _ _ h => h) (Or.inl ⟨by rfl, ?_⟩) (by assumption) ?_
    rotate_left
    · intro w hSw
      (try dsimp only at hSw)
      go_simp
      try with_reducible rfl
    try simp only [Act.put, List.setIfInBounds_toArray, List.set_cons_zero, List.set_cons_succ, List.getElem_toArray, List.getElem_cons_zero, List.getElem_cons_succ]
    refine wpAnyH_take (i := 18) (v := .agg (List.toArray (es))) rfl (by kernel_rfl) (by kernel_rfl) (by kernel_rfl) (fun _ _ _ h => h) (yieldsIf_load_mid (by rfl) _ _ rfl _ _ rfl (es) _ (fun w hSw => (Bk.range (pre := []) (post := []) (by simpa using hSw.2.2.2.1) rfl)) Try.underlying105 rfl (HU11.out.rinfo)) (by assumption) ?_
    try simp only [Act.put, List.setIfInBounds_toArray, List.set_cons_zero, List.set_cons_succ, List.getElem_toArray, List.getElem_cons_zero, List.getElem_cons_succ]
    refine wpAnyH_take (i := 19) (v := .agg (List.toArray (cs))) rfl (by kernel_rfl) (by kernel_rfl) (by kernel_rfl) (fun _ _ _ h => h) (yieldsIf_load_mid (by rfl) _ _ rfl _ _ rfl (cs) _ (fun w hSw => (Bk.range (pre := []) (post := []) (by simpa using hSw.2.1) rfl)) Try.underlying105 rfl (HS11.out.rinfo)) (by assumption) ?_
    try simp only [Act.put, List.setIfInBounds_toArray, List.set_cons_zero, List.set_cons_succ, List.getElem_toArray, List.getElem_cons_zero, List.getElem_cons_succ]
    refine wpAnyH_ready (rs := [20]) (by kernel_rfl) (by simp) ?_
    refine AllReadyH.cons rfl (fun K hK => ?_) AllReadyH.nil
    go_simp
    (go_at_call 55; refine (rsameV HU11.out HS11.out).mono ?_; rw [sameG_self]; rintro e w12 ⟨rfl, hbn⟩; have HES12 := Lib.hid (HES11.out.below (hbn.mono HBW11.out)); have HBW12 : Hid (B9 ≤ w12.heap.size) := Nat.le_trans HBW11.out hbn.size; have HBB12 := Lib.hid (below_then HBB11.out hbn); have HS12 := Lib.hid (HS11.out.later hbn); have HC12 := Lib.hid (HC11.out.later hbn); have HD12 := Lib.hid (HD11.out.later hbn); have HT12 := Lib.hid (HT11.out.later hbn); have HF12 := Lib.hid (HF11.out.later hbn); have HH12 := Lib.hid (HH11.out.later hbn); clear hbn)
    refine hK.out _ _ (⟨HC12.out, HD12.out, HF12.out, HH12.out, HES12.out⟩) (fun hHeld => ?_)
    clear hK K
    try simp only [Act.put, List.setIfInBounds_toArray, List.set_cons_zero, List.set_cons_succ, List.getElem_toArray, List.getElem_cons_zero, List.getElem_cons_succ]
    refine wpAnyH_take (i := 21) (v := ?_) rfl (by kernel_rfl) (by kernel_rfl) (by kernel_rfl) (fun _ _ _ h => h) (Or.inl ⟨by rfl, ?_⟩) (by assumption) ?_
    rotate_left
    · intro w hSw
      (try dsimp only at hSw)
      go_simp
      try with_reducible rfl
    try simp only [Act.put, List.setIfInBounds_toArray, List.set_cons_zero, List.set_cons_succ, List.getElem_toArray, List.getElem_cons_zero, List.getElem_cons_succ]
    refine wpAnyH_take (i := 22) (v := ?_) rfl (by kernel_rfl) (by kernel_rfl) (by kernel_rfl) (fun _ _ _ h => h) (Or.inl ⟨by rfl, ?_⟩) (by assumption) ?_
    rotate_left
    · intro w hSw
      (try dsimp only at hSw)
      go_simp
      try with_reducible rfl
    try simp only [Act.put, List.setIfInBounds_toArray, List.set_cons_zero, List.set_cons_succ, List.getElem_toArray, List.getElem_cons_zero, List.getElem_cons_succ]
    refine wpAnyH_take (i := 23) (v := .agg (List.toArray (ds))) rfl (by kernel_rfl) (by kernel_rfl) (by kernel_rfl) (fun _ _ _ h => h) (yieldsIf_load_mid (by rfl) _ _ rfl _ _ rfl (ds) _ (fun w hSw => (Bk.range (pre := []) (post := []) (by simpa using hSw.2.2.1) rfl)) Try.underlying101 rfl (HT12.out.info)) (by assumption) ?_
    try simp only [Act.put, List.setIfInBounds_toArray, List.set_cons_zero, List.set_cons_succ, List.getElem_toArray, List.getElem_cons_zero, List.getElem_cons_succ]
    refine wpAnyH_take (i := 24) (v := .agg (List.toArray (cs))) rfl (by kernel_rfl) (by kernel_rfl) (by kernel_rfl) (fun _ _ _ h => h) (yieldsIf_load_mid (by rfl) _ _ rfl _ _ rfl (cs) _ (fun w hSw => (Bk.range (pre := []) (post := []) (by simpa using hSw.1) rfl)) Try.underlying101 rfl (HS12.out.info)) (by assumption) ?_
    try simp only [Act.put, List.setIfInBounds_toArray, List.set_cons_zero, List.set_cons_succ, List.getElem_toArray, List.getElem_cons_zero, List.getElem_cons_succ]
    refine wpAnyH_ready (rs := [25]) (by kernel_rfl) (by simp) ?_
    refine AllReadyH.cons rfl (fun K hK => ?_) AllReadyH.nil
    go_simp
    (go_at_call 56; refine (sameV HT12.out HS12.out).mono ?_; rw [sameG_self]; rintro e w13 ⟨rfl, hbn⟩; have HES13 := Lib.hid (HES12.out.below (hbn.mono HBW12.out)); have HBB13 := Lib.hid (below_then HBB12.out hbn); have HC13 := Lib.hid (HC12.out.later hbn); have HD13 := Lib.hid (HD12.out.later hbn); have HF13 := Lib.hid (HF12.out.later hbn); have HH13 := Lib.hid (HH12.out.later hbn); clear hbn)
    refine hK.out _ _ (⟨HC13.out, HD13.out, HF13.out, HH13.out, HES13.out⟩) (fun hHeld => ?_)
    clear hK K
    try simp only [Act.put, List.setIfInBounds_toArray, List.set_cons_zero, List.set_cons_succ, List.getElem_toArray, List.getElem_cons_zero, List.getElem_cons_succ]
    refine wpAnyH_take (i := 26) (v := ?_) rfl (by kernel_rfl) (by kernel_rfl) (by kernel_rfl) (fun _ _ _ h => h) (Or.inl ⟨by rfl, ?_⟩) (by assumption) ?_
    rotate_left
    · intro w hSw
      (try dsimp only at hSw)
      go_simp
      try with_reducible rfl
    try simp only [Act.put, List.setIfInBounds_toArray, List.set_cons_zero, List.set_cons_succ, List.getElem_toArray, List.getElem_cons_zero, List.getElem_cons_succ]
    refine wpAnyH_take (i := 27) (v := ?_) rfl (by kernel_rfl) (by kernel_rfl) (by kernel_rfl) (fun _ _ _ h => h) (Or.inl ⟨by rfl, ?_⟩) (by assumption) ?_
    rotate_left
    · intro w hSw
      (try dsimp only at hSw)
      go_simp
      try with_reducible rfl
    try simp only [Act.put, List.setIfInBounds_toArray, List.set_cons_zero, List.set_cons_succ, List.getElem_toArray, List.getElem_cons_zero, List.getElem_cons_succ]
    refine wpAnyH_done (by kernel_rfl) ?_ _
    clear hHeld
    go_wp2_with fail
    go_ret
    exact ⟨rfl, HBB13.out⟩
end Go.Proofs.Ythibihjblodfmaa
