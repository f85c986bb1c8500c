/- Digests: two together. -/
import Derived.Test.YtimcjldehememaaDoorH5
namespace Go.Proofs.YtimcjldehememaaDoor
open Go.RowKit

theorem DgAt.later {w w' : World} {g : Nat} {t : TypeId} {ds : List Int} (h : DgAt w g t ds) (hb : Below w.heap.size w w') : DgAt w' g t ds := Bk.later h hb
theorem StAt.later {w w' : World} {g : Nat} {t : TypeId} {s : St} (h : StAt w g t s) (hb : Below w.heap.size w w') : StAt w' g t s := Bk.later h hb
def twoI (a b : List Int) : List Int := outI (takeI (takeI (beginI 3) (numG a)) (numG b))
theorem twoI_ok (a b : List Int) : DgOk (twoI a b) := outI_ok _

set_option maxRecDepth 20000 in
theorem two_any (w : World) (a b : List Int) (ha : DgOk a) (hb : DgOk b) :
    Calls Tryd.prog 61 #[.agg (dgA a), .agg (dgA b)] w fun e w' => e = .returned (.agg (dgA (twoI a b))) ∧ Below w.heap.size w w' := by
  obtain ⟨w1, hw1⟩ : ∃ w1, ((w.alloc (.cells (dgA a) 26)).alloc (.cells (dgA b) 26)).alloc (.cells (dgA (List.replicate 8 0)) 26) = w1 := ⟨_, rfl⟩
  have ka : DgAt w1 w.heap.size 26 a := hw1 ▸ Bk.alloc (Bk.alloc (dg_new w _ a) _) _
  have kb : DgAt w1 (w.heap.size + 1) 26 b := hw1 ▸ Bk.alloc (Bk.at_ _ _ _ (by simp) (dgA_list b)) _
  have kz : DgAt w1 (w.heap.size + 1 + 1) 26 (List.replicate 8 0) := hw1 ▸ Bk.at_ _ _ _ (by simp) (dgA_list _)
  have hb1 : Below w.heap.size w w1 := hw1 ▸ ((below_new w _).alloc (by simp) _).alloc (by simp <;> omega) _
  have hz1 : w1.heap.size = w.heap.size + 1 + 1 + 1 := by rw [← hw1]; simp
  have HKA := Lib.hid ka; have HKB := Lib.hid kb; have HKZ := Lib.hid kz; have HB1 := Lib.hid hb1; have HW := Lib.hid hw1; have HZ1 := Lib.hid hz1
  have HIA := dg_info _ ha; have HIB := dg_info _ hb; have HA := Lib.hid ha; have HB := Lib.hid hb
  clear ka kb kz hb1 hw1 hz1 ha hb
  go_enter Tryd.func61, Tryd.ntmps61
  go_upto_region 1 with fail
  rw [zero8, HW.out]
  go_wp2_with fail
  refine (begin_any _ _).mono ?_
  rintro e w2 ⟨rfl, hb2⟩
  obtain ⟨s0, hs0⟩ : ∃ s0, beginI 3 = s0 := ⟨_, rfl⟩
  rw [hs0]
  have HS0 := Lib.hid hs0; clear hs0
  obtain ⟨w3, hw3⟩ : ∃ w3, w2.alloc (.cells #[.int .u64 s0.a, .int .u64 s0.b, .int .u64 s0.c, .int .u64 s0.d] 96) = w3 := ⟨_, rfl⟩
  obtain ⟨g, hg⟩ : ∃ g, w2.heap.size = g := ⟨_, rfl⟩
  have hs3 : StAt w3 g 96 s0 := hw3 ▸ Bk.at_ _ _ #[.int .u64 s0.a, .int .u64 s0.b, .int .u64 s0.c, .int .u64 s0.d] hg rfl
  have hb3 : Below w1.heap.size w1 w3 := hw3 ▸ hb2.trans ((below_new _ _).mono hb2.size)
  have hg1 : w1.heap.size ≤ g := by rw [← hg]; exact hb2.size
  have HW3 := Lib.hid hw3; have HS3 := Lib.hid hs3; have HB3 := Lib.hid hb3; have HG := Lib.hid hg
  clear hb2 hw3 hs3 hb3 hg
  have HC3 := Lib.hid (HKA.out.later HB3.out).heap
  go_upto_region 2 with fail
  rw [HW3.out, HG.out]
  go_wp2_with (refine wpList_load_row rfl 26 _ rfl w.heap.size rfl 26 (dgA a) (0, 0) _ HC3.out Tryd.underlying26 rfl HIA.out ?_)
  refine (num_any a HA.out _).mono ?_
  rintro e w4 ⟨rfl, hb4⟩
  have HB4 := Lib.hid (HB3.out.trans (hb4.mono HB3.out.size))
  have HS4 := Lib.hid (HS3.out.later hb4)
  clear hb4
  go_wp2_with fail
  refine (take_any _ _ _ HS4.out _).mono ?_
  rintro e w5 ⟨rfl, hs5, hg5⟩
  have HB5 := Lib.hid (below_only HB4.out hg5 HB4.out.size hg1)
  have HS5 := Lib.hid hs5
  clear hs5 hg5
  have HC5 := Lib.hid (HKB.out.later HB5.out).heap
  go_wp2_with (refine wpList_load_row rfl 26 _ rfl (w.heap.size + 1) rfl 26 (dgA b) (0, 0) _ HC5.out Tryd.underlying26 rfl HIB.out ?_)
  refine (num_any b HB.out _).mono ?_
  rintro e w6 ⟨rfl, hb6⟩
  have HB6 := Lib.hid (HB5.out.trans (hb6.mono HB5.out.size))
  have HS6 := Lib.hid (HS5.out.later hb6)
  clear hb6
  go_wp2_with fail
  refine (take_any _ _ _ HS6.out _).mono ?_
  rintro e w7 ⟨rfl, hs7, hg7⟩
  have HB7 := Lib.hid (below_only HB6.out hg7 HB6.out.size hg1)
  have HS7 := Lib.hid hs7
  clear hs7 hg7
  go_wp2_with fail
  refine (gives_any _ _ _ HS7.out).mono ?_
  rintro e w8 ⟨rfl, hb8⟩
  rw [show outI (takeI (takeI s0 (numG a)) (numG b)) = twoI a b by rw [← HS0.out]; rfl]
  have HB8 := Lib.hid (HB7.out.trans (hb8.mono HB7.out.size))
  clear hb8
  have HZ8 := Lib.hid (HKZ.out.later HB8.out).heap
  have HI := dg_info (twoI a b) (outI_ok _)
  have HO := Lib.hid (dgA_one (twoI a b))
  have HS : Hid ((dgA (List.replicate 8 0)).size = (dgA (twoI a b)).size) := by show _ = _; rw [dgA_size, dgA_size, (twoI_ok a b).len]; rfl
  obtain ⟨C, hC⟩ : ∃ C, dgA (twoI a b) = C := ⟨_, rfl⟩
  have HC := Lib.hid hC
  rw [hC] at HI HO HS ⊢
  clear hC
  go_wp2_with (refine wpList_store_row rfl 26 _ _ rfl (w.heap.size + 1 + 1) C rfl rfl 26 (dgA (List.replicate 8 0)) HZ8.out HI.out HS.out HO.out ?_)
  refine bodyPost_ret (results_cell_row (p := 4) (ty := 26) rfl _ _ (w.heap.size + 1 + 1) 26 C (0, 0) _ rfl (setRow_heap _ _ _ _ _ _ HZ8.out) Tryd.underlying26 rfl HI.out) rfl ?_
  rw [← HC.out]
  exact ⟨rfl, below_setRow (HB1.out.trans (HB8.out.mono (by rw [HZ1.out]; omega))) (by omega) _⟩

theorem list8 {α : Type} (l : List α) (h : l.length = 8) : ∃ a0 a1 a2 a3 a4 a5 a6 a7, l = [a0, a1, a2, a3, a4, a5, a6, a7] := by
  match l, h with
  | [a0, a1, a2, a3, a4, a5, a6, a7], _ => exact ⟨_, _, _, _, _, _, _, _, rfl⟩
theorem cells8 {w : World} {g : Nat} {t : TypeId} {a0 a1 a2 a3 a4 a5 a6 a7 : Int} (h : DgAt w g t [a0, a1, a2, a3, a4, a5, a6, a7]) : w.cell? ⟨g, 0, none⟩ = some (.int .u8 a0) ∧ w.cell? ⟨g, 1, none⟩ = some (.int .u8 a1) ∧ w.cell? ⟨g, 2, none⟩ = some (.int .u8 a2) ∧ w.cell? ⟨g, 3, none⟩ = some (.int .u8 a3) ∧ w.cell? ⟨g, 4, none⟩ = some (.int .u8 a4) ∧ w.cell? ⟨g, 5, none⟩ = some (.int .u8 a5) ∧ w.cell? ⟨g, 6, none⟩ = some (.int .u8 a6) ∧ w.cell? ⟨g, 7, none⟩ = some (.int .u8 a7) :=
  ⟨Bk.cell h 0, Bk.cell h 1, Bk.cell h 2, Bk.cell h 3, Bk.cell h 4, Bk.cell h 5, Bk.cell h 6, Bk.cell h 7⟩
theorem out8 (w : World) (s : St) :
    Calls Tryd.prog 48 #[.agg #[.int .u64 s.a, .int .u64 s.b, .int .u64 s.c, .int .u64 s.d]] w fun e w' => ∃ o0 o1 o2 o3 o4 o5 o6 o7 : Int, e = .returned (.agg #[.int .u8 o0, .int .u8 o1, .int .u8 o2, .int .u8 o3, .int .u8 o4, .int .u8 o5, .int .u8 o6, .int .u8 o7]) ∧ Hid (outI s = [o0, o1, o2, o3, o4, o5, o6, o7]) ∧ Below w.heap.size w w' := by
  obtain ⟨o0, o1, o2, o3, o4, o5, o6, o7, ho⟩ := list8 (outI s) (outI_ok s).len
  refine (out_any w s).mono ?_
  rintro e w' ⟨rfl, hb⟩
  exact ⟨o0, o1, o2, o3, o4, o5, o6, o7, by rw [ho]; rfl, ho, hb⟩
theorem zeros8 {w : World} {g : Nat} {t : TypeId} (h : DgAt w g t (List.replicate 8 0)) : (w.cell? ⟨g, 0, none⟩ = some (.int .u8 0) ∧ w.cell? ⟨g, 1, none⟩ = some (.int .u8 0) ∧ w.cell? ⟨g, 2, none⟩ = some (.int .u8 0) ∧ w.cell? ⟨g, 3, none⟩ = some (.int .u8 0) ∧ w.cell? ⟨g, 4, none⟩ = some (.int .u8 0) ∧ w.cell? ⟨g, 5, none⟩ = some (.int .u8 0) ∧ w.cell? ⟨g, 6, none⟩ = some (.int .u8 0) ∧ w.cell? ⟨g, 7, none⟩ = some (.int .u8 0)) ∧ (∀ i, w.frozen? ⟨g, i, none⟩ = false) ∧ g < w.heap.size :=
  ⟨cells8 h, Bk.frozen h, Bk.lt h⟩
theorem cells16 {w w1 W : World} {t : TypeId} {a0 a1 a2 a3 a4 a5 a6 a7 b0 b1 b2 b3 b4 b5 b6 b7 : Int} (h : DgAt w1 w.heap.size t [a0, a1, a2, a3, a4, a5, a6, a7]) (h' : DgAt w1 (w.heap.size + 1) t [b0, b1, b2, b3, b4, b5, b6, b7]) (hb : Below w1.heap.size w1 W) : W.cell? ⟨w.heap.size, 0, none⟩ = some (.int .u8 a0) ∧ W.cell? ⟨w.heap.size, 1, none⟩ = some (.int .u8 a1) ∧ W.cell? ⟨w.heap.size, 2, none⟩ = some (.int .u8 a2) ∧ W.cell? ⟨w.heap.size, 3, none⟩ = some (.int .u8 a3) ∧ W.cell? ⟨w.heap.size, 4, none⟩ = some (.int .u8 a4) ∧ W.cell? ⟨w.heap.size, 5, none⟩ = some (.int .u8 a5) ∧ W.cell? ⟨w.heap.size, 6, none⟩ = some (.int .u8 a6) ∧ W.cell? ⟨w.heap.size, 7, none⟩ = some (.int .u8 a7) ∧ W.cell? ⟨w.heap.size + 1, 0, none⟩ = some (.int .u8 b0) ∧ W.cell? ⟨w.heap.size + 1, 1, none⟩ = some (.int .u8 b1) ∧ W.cell? ⟨w.heap.size + 1, 2, none⟩ = some (.int .u8 b2) ∧ W.cell? ⟨w.heap.size + 1, 3, none⟩ = some (.int .u8 b3) ∧ W.cell? ⟨w.heap.size + 1, 4, none⟩ = some (.int .u8 b4) ∧ W.cell? ⟨w.heap.size + 1, 5, none⟩ = some (.int .u8 b5) ∧ W.cell? ⟨w.heap.size + 1, 6, none⟩ = some (.int .u8 b6) ∧ W.cell? ⟨w.heap.size + 1, 7, none⟩ = some (.int .u8 b7) := by
  have h1 := h.later hb; have h2 := h'.later hb
  exact ⟨Bk.cell h1 0, Bk.cell h1 1, Bk.cell h1 2, Bk.cell h1 3, Bk.cell h1 4, Bk.cell h1 5, Bk.cell h1 6, Bk.cell h1 7, cells8 h2⟩

theorem cells16g {w w1 W : World} {t : TypeId} {a0 a1 a2 a3 a4 a5 a6 a7 b0 b1 b2 b3 b4 b5 b6 b7 : Int} (h : DgAt w1 w.heap.size t [a0, a1, a2, a3, a4, a5, a6, a7]) (h' : DgAt w1 (w.heap.size + 1) t [b0, b1, b2, b3, b4, b5, b6, b7]) {q : Nat} (hb : w1.grownBy W (some q)) (h1 : w.heap.size ≠ q) (h2 : w.heap.size + 1 ≠ q) : W.cell? ⟨w.heap.size, 0, none⟩ = some (.int .u8 a0) ∧ W.cell? ⟨w.heap.size, 1, none⟩ = some (.int .u8 a1) ∧ W.cell? ⟨w.heap.size, 2, none⟩ = some (.int .u8 a2) ∧ W.cell? ⟨w.heap.size, 3, none⟩ = some (.int .u8 a3) ∧ W.cell? ⟨w.heap.size, 4, none⟩ = some (.int .u8 a4) ∧ W.cell? ⟨w.heap.size, 5, none⟩ = some (.int .u8 a5) ∧ W.cell? ⟨w.heap.size, 6, none⟩ = some (.int .u8 a6) ∧ W.cell? ⟨w.heap.size, 7, none⟩ = some (.int .u8 a7) ∧ W.cell? ⟨w.heap.size + 1, 0, none⟩ = some (.int .u8 b0) ∧ W.cell? ⟨w.heap.size + 1, 1, none⟩ = some (.int .u8 b1) ∧ W.cell? ⟨w.heap.size + 1, 2, none⟩ = some (.int .u8 b2) ∧ W.cell? ⟨w.heap.size + 1, 3, none⟩ = some (.int .u8 b3) ∧ W.cell? ⟨w.heap.size + 1, 4, none⟩ = some (.int .u8 b4) ∧ W.cell? ⟨w.heap.size + 1, 5, none⟩ = some (.int .u8 b5) ∧ W.cell? ⟨w.heap.size + 1, 6, none⟩ = some (.int .u8 b6) ∧ W.cell? ⟨w.heap.size + 1, 7, none⟩ = some (.int .u8 b7) := by
  have h1 : DgAt W _ _ _ := Bk.grown h hb (by simpa using h1); have h2 : DgAt W _ _ _ := Bk.grown h' hb (by simpa using h2)
  exact ⟨Bk.cell h1 0, Bk.cell h1 1, Bk.cell h1 2, Bk.cell h1 3, Bk.cell h1 4, Bk.cell h1 5, Bk.cell h1 6, Bk.cell h1 7, cells8 h2⟩

set_option maxRecDepth 20000 in
set_option maxHeartbeats 800000 in
theorem rtwo_any (w : World) (a b : List Int) (ha : DgOk a) (hb : DgOk b) :
    Calls Tryd.prog 40 #[.agg (dgA a), .agg (dgA b)] w fun e w' => e = .returned (.agg (dgA (twoI a b))) ∧ Below w.heap.size w w' := by
  obtain ⟨a0, a1, a2, a3, a4, a5, a6, a7, rfl⟩ := list8 a ha.len
  obtain ⟨b0, b1, b2, b3, b4, b5, b6, b7, rfl⟩ := list8 b hb.len
  obtain ⟨w1, hw1⟩ : ∃ w1, ((w.alloc (.cells (dgA [a0, a1, a2, a3, a4, a5, a6, a7]) 25)).alloc (.cells (dgA [b0, b1, b2, b3, b4, b5, b6, b7]) 25)).alloc (.cells (dgA (List.replicate 8 0)) 25) = w1 := ⟨_, rfl⟩
  have ka : DgAt w1 w.heap.size 25 [a0, a1, a2, a3, a4, a5, a6, a7] := hw1 ▸ Bk.alloc (Bk.alloc (dg_new w _ _) _) _
  have kb : DgAt w1 (w.heap.size + 1) 25 [b0, b1, b2, b3, b4, b5, b6, b7] := hw1 ▸ Bk.alloc (Bk.at_ _ _ _ (by simp) (dgA_list _)) _
  have kz : DgAt w1 (w.heap.size + 1 + 1) 25 (List.replicate 8 0) := hw1 ▸ Bk.at_ _ _ _ (by simp) (dgA_list _)
  have hb1 : Below w.heap.size w w1 := hw1 ▸ ((below_new w _).alloc (by simp) _).alloc (by simp <;> omega) _
  have hz1 : w1.heap.size = w.heap.size + 1 + 1 + 1 := by rw [← hw1]; simp
  have hS1 := cells16 ka kb (Below.refl _ _)
  have HKA := Lib.hid ka; have HKB := Lib.hid kb; have HKZ := Lib.hid kz; have HB1 := Lib.hid hb1; have HW := Lib.hid hw1; have HZ1 := Lib.hid hz1
  have HA := Lib.hid ha; have HB := Lib.hid hb
  clear ka kb kz hb1 hw1 hz1 ha hb
  go_enter Tryd.func40, Tryd.ntmps40
  go_upto_region 1 with fail
  rw [zero8, HW.out]
  go_region_held3 (fun w' => w'.cell? ⟨w.heap.size, 0, none⟩ = some (.int .u8 a0) ∧ w'.cell? ⟨w.heap.size, 1, none⟩ = some (.int .u8 a1) ∧ w'.cell? ⟨w.heap.size, 2, none⟩ = some (.int .u8 a2) ∧ w'.cell? ⟨w.heap.size, 3, none⟩ = some (.int .u8 a3) ∧ w'.cell? ⟨w.heap.size, 4, none⟩ = some (.int .u8 a4) ∧ w'.cell? ⟨w.heap.size, 5, none⟩ = some (.int .u8 a5) ∧ w'.cell? ⟨w.heap.size, 6, none⟩ = some (.int .u8 a6) ∧ w'.cell? ⟨w.heap.size, 7, none⟩ = some (.int .u8 a7) ∧ w'.cell? ⟨w.heap.size + 1, 0, none⟩ = some (.int .u8 b0) ∧ w'.cell? ⟨w.heap.size + 1, 1, none⟩ = some (.int .u8 b1) ∧ w'.cell? ⟨w.heap.size + 1, 2, none⟩ = some (.int .u8 b2) ∧ w'.cell? ⟨w.heap.size + 1, 3, none⟩ = some (.int .u8 b3) ∧ w'.cell? ⟨w.heap.size + 1, 4, none⟩ = some (.int .u8 b4) ∧ w'.cell? ⟨w.heap.size + 1, 5, none⟩ = some (.int .u8 b5) ∧ w'.cell? ⟨w.heap.size + 1, 6, none⟩ = some (.int .u8 b6) ∧ w'.cell? ⟨w.heap.size + 1, 7, none⟩ = some (.int .u8 b7)) (first | (with_reducible exact hS8) | (with_reducible exact hS7) | (with_reducible exact hS6) | (with_reducible exact hS5) | (with_reducible exact hS4) | (with_reducible exact hS3) | (with_reducible exact hS2) | go_keep)
    (first
      | (go_at_call 51; refine (rbegin_any _ _).mono ?_; rintro e w2 ⟨rfl, hb2⟩; have E2 : Hid (Below w1.heap.size w1 w2) := ((below_draws w1 _ 1).trans hb2); have hS2 := cells16 HKA.out HKB.out E2.out; clear hb2; have tok1 : True := trivial; have tok2 : True := trivial)
      | (go_at_call 52; have _t := tok1; refine (rnum_any [a0, a1, a2, a3, a4, a5, a6, a7] HA.out _).mono ?_; rintro e w3 ⟨rfl, hb3⟩; clear tok1; have E3 : Hid (Below w1.heap.size w1 w3) := (E2.out.trans (hb3.mono E2.out.size)); have hS3 := cells16 HKA.out HKB.out E3.out; clear hb3)
      | (go_at_call 50; have _t := tok2; refine (in_any _ _ _).mono ?_; rintro e w4 ⟨rfl, hb4⟩; clear tok2; have E4 : Hid (Below w1.heap.size w1 w4) := (E3.out.trans (hb4.mono E3.out.size)); have hS4 := cells16 HKA.out HKB.out E4.out; clear hb4)
      | (go_at_call 52; refine (rnum_any [b0, b1, b2, b3, b4, b5, b6, b7] HB.out _).mono ?_; rintro e w5 ⟨rfl, hb5⟩; have E5 : Hid (Below w1.heap.size w1 w5) := (E4.out.trans (hb5.mono E4.out.size)); have hS5 := cells16 HKA.out HKB.out E5.out; clear hb5)
      | (go_at_call 50; refine (in_any _ _ _).mono ?_; rintro e w6 ⟨rfl, hb6⟩; have E6 : Hid (Below w1.heap.size w1 w6) := (E5.out.trans (hb6.mono E5.out.size)); have hS6 := cells16 HKA.out HKB.out E6.out; clear hb6)
      | (go_at_call 48; refine (out8 _ _).mono ?_; rintro e w7 ⟨o0, o1, o2, o3, o4, o5, o6, o7, rfl, ho, hb7⟩; have hz7 := zeros8 (HKZ.out.later (E6.out.trans (hb7.mono E6.out.size))); obtain ⟨⟨z0, z1, z2, z3, z4, z5, z6, z7⟩, zf, zl⟩ := hz7; have hG : w1.grownBy ((((((((w7.setCell ⟨w.heap.size + 1 + 1, 0, none⟩ (.int .u8 o0)).setCell ⟨w.heap.size + 1 + 1, 1, none⟩ (.int .u8 o1)).setCell ⟨w.heap.size + 1 + 1, 2, none⟩ (.int .u8 o2)).setCell ⟨w.heap.size + 1 + 1, 3, none⟩ (.int .u8 o3)).setCell ⟨w.heap.size + 1 + 1, 4, none⟩ (.int .u8 o4)).setCell ⟨w.heap.size + 1 + 1, 5, none⟩ (.int .u8 o5)).setCell ⟨w.heap.size + 1 + 1, 6, none⟩ (.int .u8 o6)).setCell ⟨w.heap.size + 1 + 1, 7, none⟩ (.int .u8 o7)) (some (w.heap.size + 1 + 1)) := only_set (only_set (only_set (only_set (only_set (only_set (only_set (only_set (only_below (only_refl w1 (w.heap.size + 1 + 1)) (E6.out.trans (hb7.mono E6.out.size))) 0 (.int .u8 o0)) 1 (.int .u8 o1)) 2 (.int .u8 o2)) 3 (.int .u8 o3)) 4 (.int .u8 o4)) 5 (.int .u8 o5)) 6 (.int .u8 o6)) 7 (.int .u8 o7); have hS8 := cells16g HKA.out HKB.out hG (by omega) (by omega); have HG := Lib.hid hG; clear hG; have E7 : Hid (Below w1.heap.size w1 w7) := (E6.out.trans (hb7.mono E6.out.size)); have hS7 := cells16 HKA.out HKB.out E7.out; clear hb7))
  have HZ8 : DgAt _ (w.heap.size + 1 + 1) 25 [o0, o1, o2, o3, o4, o5, o6, o7] := (Bk.set_ (Bk.set_ (Bk.set_ (Bk.set_ (Bk.set_ (Bk.set_ (Bk.set_ (Bk.set_ (HKZ.out.later E7.out) 0 (.int .u8 o0)) 1 (.int .u8 o1)) 2 (.int .u8 o2)) 3 (.int .u8 o3)) 4 (.int .u8 o4)) 5 (.int .u8 o5)) 6 (.int .u8 o6)) 7 (.int .u8 o7))
  have HBL := (((((((((HB1.out.trans (E7.out.mono HB1.out.size)).setCell (p := ⟨w.heap.size + 1 + 1, 0, none⟩) (by show _ ≤ w.heap.size + 1 + 1; omega) (.int .u8 o0)).setCell (p := ⟨w.heap.size + 1 + 1, 1, none⟩) (by show _ ≤ w.heap.size + 1 + 1; omega) (.int .u8 o1)).setCell (p := ⟨w.heap.size + 1 + 1, 2, none⟩) (by show _ ≤ w.heap.size + 1 + 1; omega) (.int .u8 o2)).setCell (p := ⟨w.heap.size + 1 + 1, 3, none⟩) (by show _ ≤ w.heap.size + 1 + 1; omega) (.int .u8 o3)).setCell (p := ⟨w.heap.size + 1 + 1, 4, none⟩) (by show _ ≤ w.heap.size + 1 + 1; omega) (.int .u8 o4)).setCell (p := ⟨w.heap.size + 1 + 1, 5, none⟩) (by show _ ≤ w.heap.size + 1 + 1; omega) (.int .u8 o5)).setCell (p := ⟨w.heap.size + 1 + 1, 6, none⟩) (by show _ ≤ w.heap.size + 1 + 1; omega) (.int .u8 o6)).setCell (p := ⟨w.heap.size + 1 + 1, 7, none⟩) (by show _ ≤ w.heap.size + 1 + 1; omega) (.int .u8 o7))
  have HI := rdg_info [o0, o1, o2, o3, o4, o5, o6, o7] ⟨rfl, by rw [← ho.out]; exact (outI_ok _).byt⟩
  have HZZ := Lib.hid (DgAt.heap HZ8); have HBB := Lib.hid HBL
  clear HZ8 HBL hS1 hS2 hS3 hS4 hS5 hS6 hS7 hS8 z0 z1 z2 z3 z4 z5 z6 z7 zf zl
  go_wp2_with fail
  refine bodyPost_ret (results_cell_row (p := 4) (ty := 25) rfl _ _ (w.heap.size + 1 + 1) 25 (dgA [o0, o1, o2, o3, o4, o5, o6, o7]) (0, 0) _ rfl HZZ.out Tryd.underlying25 rfl HI.out) rfl ?_
  exact ⟨by rw [show twoI [a0, a1, a2, a3, a4, a5, a6, a7] [b0, b1, b2, b3, b4, b5, b6, b7] = [o0, o1, o2, o3, o4, o5, o6, o7] from ho.out], HBB.out⟩
end Go.Proofs.YtimcjldehememaaDoor
