/- The digest of a digest. -/
import Derived.Test.YtbclfjdamklbpaaL1
namespace Go.Proofs.Ytbclfjdamklbpaa
set_option linter.unusedSimpArgs false
set_option linter.unusedVariables false
open Go.RowKit Go.Maps

def oneI (a : List Int) : List Int := outI (takeI (beginI 2) (numG a))
theorem oneI_ok (a : List Int) : DgOk (oneI a) := outI_ok _
set_option maxRecDepth 20000 in
theorem one_any (w : World) (a : List Int) (ha : DgOk a) :
    Calls Try.prog 20 #[.agg (dl a).toArray] w fun e w' => e = .returned (.agg (dl (oneI a)).toArray) ∧ Below w.heap.size w w' := by
  rw [dl_dgA]
  obtain ⟨w1, hw1⟩ : ∃ w1, (w.alloc (.cells (dgA a) 23)).alloc (.cells (dgA (List.replicate 8 0)) 23) = w1 := ⟨_, rfl⟩
  have ka : DgAt w1 w.heap.size 23 a := hw1 ▸ Bk.alloc (dg_new w _ a) _
  have kz : Bk w1 (w.heap.size + 1) 23 ([] ++ (dl zeroD ++ [])) := hw1 ▸ Bk.at_ _ _ _ (by simp) (by simp [dgA, dl, zeroD, List.replicate])
  have hb1 : Below w.heap.size w w1 := hw1 ▸ (below_new w _).alloc (by simp) _
  have hz1 : w1.heap.size = w.heap.size + 1 + 1 := by rw [← hw1]; simp
  have HKA := Lib.hid ka; have HKZ := Lib.hid kz; have HB1 := Lib.hid hb1; have HW := Lib.hid hw1; have HZ1 := Lib.hid hz1
  have HIA := dg_info _ ha; have HA := Lib.hid ha
  clear ka kz hb1 hw1 hz1 ha
  go_enter Try.func20, Try.ntmps20
  go_upto_region 1 with fail
  rw [zero8, HW.out]
  go_wp2_with fail
  refine (begin_any _ _).mono ?_
  rintro e w2 ⟨rfl, hb2⟩
  obtain ⟨s0, hs0⟩ : ∃ s0, beginI 2 = s0 := ⟨_, rfl⟩
  rw [hs0]
  have HS0 := Lib.hid hs0; clear hs0
  obtain ⟨w3, hw3⟩ : ∃ w3, w2.alloc (.cells #[.int .u64 s0.a, .int .u64 s0.b, .int .u64 s0.c, .int .u64 s0.d] 100) = w3 := ⟨_, rfl⟩
  obtain ⟨g, hg⟩ : ∃ g, w2.heap.size = g := ⟨_, rfl⟩
  have hs3 : StAt w3 g 100 s0 := hw3 ▸ Bk.at_ _ _ #[.int .u64 s0.a, .int .u64 s0.b, .int .u64 s0.c, .int .u64 s0.d] hg rfl
  have hb3 : Below w1.heap.size w1 w3 := hw3 ▸ hb2.trans ((below_new _ _).mono hb2.size)
  have hg1 : w1.heap.size ≤ g := by rw [← hg]; exact hb2.size
  have HW3 := Lib.hid hw3; have HS3 := Lib.hid hs3; have HB3 := Lib.hid hb3; have HG := Lib.hid hg
  clear hb2 hw3 hs3 hb3 hg
  have HC3 := Lib.hid (HKA.out.later HB3.out).heap
  go_upto_region 2 with fail
  rw [HW3.out, HG.out]
  go_wp2_with (refine wpList_load_row rfl 23 _ rfl w.heap.size rfl 23 (dgA a) (0, 0) _ HC3.out Try.underlying23 rfl HIA.out ?_)
  refine (num_any a HA.out _).mono ?_
  rintro e w4 ⟨rfl, hb4⟩
  have HB4 := Lib.hid (HB3.out.trans (hb4.mono HB3.out.size))
  have HS4 := Lib.hid (HS3.out.later hb4)
  clear hb4
  go_wp2_with fail
  refine (take_any _ _ _ HS4.out _).mono ?_
  rintro e w7 ⟨rfl, hs7, hg7⟩
  have HB7 := Lib.hid (below_only HB4.out hg7 HB4.out.size hg1)
  have HS7 := Lib.hid hs7
  clear hs7 hg7
  go_wp2_with fail
  refine (gives_any _ _ _ HS7.out).mono ?_
  rintro e w8 ⟨rfl, hb8⟩
  rw [show outI (takeI s0 (numG a)) = oneI a by rw [← HS0.out]; rfl, ← dl_dgA]
  have HB8 := Lib.hid (HB7.out.trans (hb8.mono HB7.out.size))
  clear hb8
  have HZ8 := Lib.hid (HKZ.out.later HB8.out)
  have HD := Lib.hid (hdg_size _ (oneI_ok a)); have HL : Hid ((dl zeroD).length = (dl (oneI a)).length) := by show _ = _; rw [dl_len, dl_len, (oneI_ok a).len]; rfl
  obtain ⟨C, hC⟩ : ∃ C, dl (oneI a) = C := ⟨_, rfl⟩
  have HC1 : Hid (∀ v ∈ C, v.oneCell' = true) := by rw [← hC]; exact dl_one' _
  have HCC := Lib.hid hC
  rw [hC] at HD HL ⊢
  clear hC
  go_wp2_with (with_reducible refine stop_store 23 _ _ rfl ?_)
  refine StopD.go ?_
  refine wpList_store_part rfl 23 _ _ rfl (w.heap.size + 1) 0 (.agg C.toArray) C rfl rfl rfl 23 [] (dl zeroD) [] HZ8.out rfl HL.out HD.out HC1.out ?_
  intro w9 hp9
  have HK9 : Hid (Bk w9 (w.heap.size + 1) 23 C) := by show Bk _ _ _ _; have := hp9.bk; simpa using this
  have HB9 := Lib.hid (below_only (below_then HB1.out HB8.out) hp9.only (below_then HB1.out HB8.out).size (Nat.le_succ _))
  clear hp9
  go_wp2_with fail
  refine bodyPost_ret (results_cell_bk rfl _ _ (w.heap.size + 1) 23 C _ rfl HK9.out Try.underlying23 rfl HD.out) rfl ?_
  exact ⟨by rw [HCC.out], HB9.out⟩
end Go.Proofs.Ytbclfjdamklbpaa
