/- Digests: a digest with a word. -/
import Derived.Test.YtimcjldehememaaDoorH8
import Derived.Lib.ConvBytes
namespace Go.Proofs.YtimcjldehememaaDoor
open Go.RowKit

def bytesOf (s : ByteArray) : List Int := s.data.toList.map fun c => (c.toNat : Int)
theorem bytesOf_len (s : ByteArray) : (bytesOf s).length = s.size := by simp [bytesOf]
theorem bytesOf_ok (s : ByteArray) : ByOk (bytesOf s) := fun b hb => by
  simp only [bytesOf, List.mem_map] at hb
  obtain ⟨c, _, rfl⟩ := hb
  have := c.toNat_lt
  omega
theorem below_bytes (W : World) (e : TypeId) (s : ByteArray) : Below W.heap.size W (Lib.bytesWorld W e s) :=
  ⟨rfl, rfl, rfl, by rw [Lib.bytesWorld_size]; omega, fun j hj => Lib.bytesWorld_at_old W e s j hj⟩
theorem sl_bytes (W : World) (e : TypeId) (s : ByteArray) (hs : s.size ≤ 9223372036854775807) :
    Sl (Lib.bytesWorld W e s) (Lib.bytesWorld W e s).heap.size 1 (some ⟨W.heap.size, 0, none⟩) s.size ((bytesOf s).map (.int .u8)) :=
  ⟨by simp [bytesOf_len], hs, fun _ => ⟨_, rfl, by rw [Lib.bytesWorld_size]; exact Nat.lt_succ_self _, fun j u hu => by
    have hj : j < s.size := by have := (List.getElem?_eq_some_iff.1 hu).1; simpa [bytesOf_len] using this
    rw [add_plain, Nat.zero_add, Lib.bytesWorld_cell W e s j hj]
    have hl : j < s.data.toList.length := by simpa using hj
    rw [List.getElem?_map, bytesOf, List.getElem?_map, List.getElem?_eq_getElem hl] at hu
    rw [List.getD_eq_getElem?_getD, List.getElem?_eq_getElem hl]
    simpa using hu⟩⟩

def wordI (d : List Int) (text : List Int) : List Int := outI (bytesI (takeI (beginI 4) (numG d)) text)
theorem wordI_ok (d text : List Int) : DgOk (wordI d text) := outI_ok _

set_option maxRecDepth 20000 in
theorem word_any (w : World) (a : List Int) (ha : DgOk a) (s : ByteArray) (hs : s.size ≤ 9223372036854775807) :
    Calls Tryd.prog 35 #[.agg (dgA a), .string s] w fun e w' => e = .returned (.agg (dgA (wordI a (bytesOf s)))) ∧ Below w.heap.size w w' := by
  obtain ⟨w1, hw1⟩ : ∃ w1, (w.alloc (.cells (dgA a) 26)).alloc (.cells (dgA (List.replicate 8 0)) 26) = w1 := ⟨_, rfl⟩
  have ka : DgAt w1 w.heap.size 26 a := hw1 ▸ Bk.alloc (dg_new w _ a) _
  have kz : DgAt w1 (w.heap.size + 1) 26 (List.replicate 8 0) := hw1 ▸ Bk.at_ _ _ _ (by simp) (dgA_list _)
  have hb1 : Below w.heap.size w w1 := hw1 ▸ (below_new w _).alloc (by simp) _
  have hz1 : w1.heap.size = w.heap.size + 1 + 1 := by rw [← hw1]; simp
  have HKA := Lib.hid ka; have HKZ := Lib.hid kz; have HB1 := Lib.hid hb1; have HW := Lib.hid hw1; have HZ1 := Lib.hid hz1
  have HIA := dg_info _ ha; have HA := Lib.hid ha
  have hcv := fun W => Lib.run_convert_string_bytes (P := Tryd.prog) W 9 94 5 s Tryd.underlying9 Tryd.underlying94 Tryd.underlying5
  have HCV := Lib.hid hcv
  clear ka kz hb1 hw1 hz1 ha hcv
  go_enter Tryd.func35, Tryd.ntmps35
  go_upto_region 1 with fail
  rw [zero8, HW.out]
  go_wp2_with fail
  refine (begin_any _ _).mono ?_
  rintro e w2 ⟨rfl, hb2⟩
  obtain ⟨s0, hs0⟩ : ∃ s0, beginI 4 = s0 := ⟨_, rfl⟩
  rw [hs0]
  have HS0 := Lib.hid hs0; clear hs0
  obtain ⟨w3, hw3⟩ : ∃ w3, w2.alloc (.cells #[.int .u64 s0.a, .int .u64 s0.b, .int .u64 s0.c, .int .u64 s0.d] 96) = w3 := ⟨_, rfl⟩
  obtain ⟨g, hg⟩ : ∃ g, w2.heap.size = g := ⟨_, rfl⟩
  have hs3 : StAt w3 g 96 s0 := hw3 ▸ Bk.at_ _ _ #[.int .u64 s0.a, .int .u64 s0.b, .int .u64 s0.c, .int .u64 s0.d] hg rfl
  have hb3 : Below w1.heap.size w1 w3 := hw3 ▸ hb2.trans ((below_new _ _).mono hb2.size)
  have hg1 : w1.heap.size ≤ g := by rw [← hg]; exact hb2.size
  have HW3 := Lib.hid hw3; have HS3 := Lib.hid hs3; have HB3 := Lib.hid hb3; have HG := Lib.hid hg
  clear hb2 hw3 hs3 hb3 hg
  have HC3 := Lib.hid (HKA.out.later HB3.out).heap
  go_upto_region 2 with fail
  rw [HW3.out, HG.out]
  go_wp2_with (refine wpList_load_row rfl 26 _ rfl w.heap.size rfl 26 (dgA a) (0, 0) _ HC3.out Tryd.underlying26 rfl HIA.out ?_)
  refine (num_any a HA.out _).mono ?_
  rintro e w4 ⟨rfl, hb4⟩
  have HB4 := Lib.hid (HB3.out.trans (hb4.mono HB3.out.size))
  have HS4 := Lib.hid (HS3.out.later hb4)
  clear hb4
  go_wp2_with fail
  refine (take_any _ _ _ HS4.out _).mono ?_
  rintro e w5 ⟨rfl, hs5, hg5⟩
  have HB5 := Lib.hid (below_only HB4.out hg5 HB4.out.size hg1)
  have HS5 := Lib.hid hs5
  clear hs5 hg5
  have hcv := HCV.out w5
  have hgl : g < w5.heap.size := Bk.lt HS5.out
  go_wp2_with fail
  have hcap := grownCap_ge w5 s.size 0 5
  obtain ⟨cp, hcp⟩ : ∃ cp, grownCap w5 s.size 0 5 = cp := ⟨_, rfl⟩
  rw [hcp] at hcap ⊢
  have HS6 := Lib.hid (HS5.out.later (below_bytes w5 5 s))
  have HB6 := Lib.hid (HB5.out.trans ((below_bytes w5 5 s).mono HB5.out.size))
  have HSL := Lib.hid (sl_bytes w5 5 s hs)
  clear hcv hcp
  refine (bytes_any _ _ _ HS6.out _ _ _ _ HSL.out (bytesOf_ok s) hcap (fun ad e => by injection e with e; subst e; exact (Nat.ne_of_lt hgl).symm)).mono ?_
  rintro e w7 ⟨rfl, hs7, hg7⟩
  have HB7 := Lib.hid (below_only HB6.out hg7 HB6.out.size hg1)
  have HS7 := Lib.hid hs7
  clear hs7 hg7
  go_wp2_with fail
  refine (gives_any _ _ _ HS7.out).mono ?_
  rintro e w8 ⟨rfl, hb8⟩
  rw [show outI (bytesI (takeI s0 (numG a)) (bytesOf s)) = wordI a (bytesOf s) by rw [← HS0.out]; rfl]
  have HB8 := Lib.hid (HB7.out.trans (hb8.mono HB7.out.size))
  clear hb8
  have HZ8 := Lib.hid (HKZ.out.later HB8.out).heap
  have HI := dg_info _ (wordI_ok a (bytesOf s))
  have HO := Lib.hid (dgA_one (wordI a (bytesOf s)))
  have HS : Hid ((dgA (List.replicate 8 0)).size = (dgA (wordI a (bytesOf s))).size) := by show _ = _; rw [dgA_size, dgA_size, (wordI_ok a (bytesOf s)).len]; rfl
  obtain ⟨C, hC⟩ : ∃ C, dgA (wordI a (bytesOf s)) = C := ⟨_, rfl⟩
  have HC := Lib.hid hC
  rw [hC] at HI HO HS ⊢
  clear hC
  go_wp2_with (refine wpList_store_row rfl 26 _ _ rfl (w.heap.size + 1) C rfl rfl 26 (dgA (List.replicate 8 0)) HZ8.out HI.out HS.out HO.out ?_)
  refine bodyPost_ret (results_cell_row (p := 4) (ty := 26) rfl _ _ (w.heap.size + 1) 26 C (0, 0) _ rfl (setRow_heap _ _ _ _ _ _ HZ8.out) Tryd.underlying26 rfl HI.out) rfl ?_
  rw [← HC.out]
  exact ⟨rfl, below_setRow (HB1.out.trans (HB8.out.mono (by rw [HZ1.out]; omega))) (by omega) _⟩
end Go.Proofs.YtimcjldehememaaDoor
