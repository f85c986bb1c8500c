/- Digests: what a state gives, where it begins, what it takes in. -/
import Derived.Test.YthibihjblodfmaaH4
import Derived.Deep.RegionHeld3
namespace Go.Proofs.Ythibihjblodfmaa
open Go.RowKit

def outI (s : St) : List Int := fromG (xorI s.a s.c)
theorem outI_ok (s : St) : DgOk (outI s) := fromG_ok _
def beginI (kind : Int) : St := ⟨2611923443488327891, 1376283091369227076, 11820040416388919760, kind⟩
theorem dg_info (ds : List Int) (h : DgOk ds) : Hid ((Try.prog.info? 29).map (·.size) = some (dgA ds).size) := by
  show _ = _
  rw [dgA_size, h.len]; exact dg_size
theorem rdg_info (ds : List Int) (h : DgOk ds) : Hid ((Try.prog.info? 22).map (·.size) = some (dgA ds).size) := by
  show _ = _
  rw [dgA_size, h.len]; exact rdg_size
theorem zero8 : (#[.int .u8 0, .int .u8 0, .int .u8 0, .int .u8 0, .int .u8 0, .int .u8 0, .int .u8 0, .int .u8 0] : Array Value) = dgA (List.replicate 8 0) := rfl

set_option maxRecDepth 20000 in
theorem gives_any (w : World) (g : Nat) (s : St) (h : StAt w g 182 s) :
    Calls Try.prog 125 #[.pointer (some ⟨g, 0, none⟩)] w fun e w' => e = .returned (.agg (dgA (outI s))) ∧ Below w.heap.size w w' := by
  obtain ⟨w1, hw1⟩ : ∃ w1, w.alloc (.cells (dgA (List.replicate 8 0)) 29) = w1 := ⟨_, rfl⟩
  have hz : DgAt w1 w.heap.size 29 (List.replicate 8 0) := hw1 ▸ dg_new w 29 (List.replicate 8 0)
  have hb : Below w.heap.size w w1 := hw1 ▸ below_new w (.cells (dgA (List.replicate 8 0)) 29)
  obtain ⟨c0, c1, c2, c3, cf⟩ := StAt.cells (w := w1) (Bk.later h hb)
  have hlt : g < w1.heap.size := Bk.lt (Bk.later h hb)
  have HZ := Lib.hid hz; have HB := Lib.hid hb; have HW := Lib.hid hw1
  have HI := dg_info _ (outI_ok s)
  have HO := Lib.hid (dgA_one (outI s))
  have HS : Hid ((dgA (List.replicate 8 0)).size = (dgA (outI s)).size) := by show _ = _; rw [dgA_size, dgA_size, (outI_ok s).len]; rfl
  clear h hz hb hw1
  go_enter Try.func125, Try.ntmps125
  go_wp2_with fail
  rw [zero8, HW.out]
  go_still_tail 9, (by kernel_rfl)
  go_wp2_with fail
  refine (from_any _ _).mono ?_
  rintro e w2 ⟨rfl, hb2⟩
  rw [show fromG (bits .xor .u64 s.a s.c) = outI s from rfl]
  have hz2 : DgAt w2 w.heap.size 29 (List.replicate 8 0) := Bk.later (Bk.drew HZ.out) hb2
  have HZ2 := Lib.hid hz2.heap
  have HB2 := Lib.hid ((HB.out.trans (below_draws _ _ 1)).trans (hb2.mono HB.out.size))
  clear hz2 hb2
  obtain ⟨C, hC⟩ : ∃ C, dgA (outI s) = C := ⟨_, rfl⟩
  have HC := Lib.hid hC
  rw [hC] at HI HO HS ⊢
  clear hC
  go_wp2_with (refine wpList_store_row rfl 29 _ _ rfl w.heap.size C rfl rfl 29 (dgA (List.replicate 8 0)) HZ2.out HI.out HS.out HO.out ?_)
  refine bodyPost_ret (results_cell_row (p := 2) (ty := 29) rfl _ _ w.heap.size 29 C (0, 0) _ rfl (setRow_heap _ _ _ _ _ _ HZ2.out) Try.underlying29 rfl HI.out) rfl ?_
  rw [← HC.out]
  exact ⟨rfl, below_setRow HB2.out (Nat.le_refl _) _⟩

set_option maxRecDepth 20000 in
theorem out_any (w : World) (s : St) :
    Calls Try.prog 129 #[.agg #[.int .u64 s.a, .int .u64 s.b, .int .u64 s.c, .int .u64 s.d]] w fun e w' => e = .returned (.agg (dgA (outI s))) ∧ Below w.heap.size w w' := by
  obtain ⟨w1, hw1⟩ : ∃ w1, (w.alloc (.cells #[.int .u64 s.a, .int .u64 s.b, .int .u64 s.c, .int .u64 s.d] 188)).alloc (.cells (dgA (List.replicate 8 0)) 22) = w1 := ⟨_, rfl⟩
  have hs : StAt w1 w.heap.size 188 s := hw1 ▸ (Bk.new w _ #[.int .u64 s.a, .int .u64 s.b, .int .u64 s.c, .int .u64 s.d]).alloc _
  have hz : DgAt w1 (w.heap.size + 1) 22 (List.replicate 8 0) := hw1 ▸ Bk.at_ _ _ _ (by simp) (dgA_list _)
  have hb : Below w.heap.size w w1 := hw1 ▸ (below_new w _).alloc (by simp) _
  obtain ⟨c0, c1, c2, c3, cf⟩ := hs.cells
  have hlt : w.heap.size < w1.heap.size := Bk.lt hs
  have HZ := Lib.hid hz; have HB := Lib.hid hb; have HW := Lib.hid hw1
  have HI := rdg_info _ (outI_ok s)
  have HO := Lib.hid (dgA_one (outI s))
  have HS : Hid ((dgA (List.replicate 8 0)).size = (dgA (outI s)).size) := by show _ = _; rw [dgA_size, dgA_size, (outI_ok s).len]; rfl
  clear hs hz hb hw1
  go_enter Try.func129, Try.ntmps129
  go_upto_region 1 with fail
  rw [zero8, HW.out]
  go_wp2_with fail
  obtain ⟨hx0, hx1⟩ := xorI_range s.a s.c
  refine (rfrom_any _ hx0 hx1 _).mono ?_
  rintro e w2 ⟨rfl, hb2⟩
  rw [show fromG (xorI s.a s.c) = outI s from rfl]
  have hz2 : DgAt w2 (w.heap.size + 1) 22 (List.replicate 8 0) := Bk.later HZ.out hb2
  have HZ2 := Lib.hid hz2.heap
  have HB2 := Lib.hid (HB.out.trans (hb2.mono HB.out.size))
  clear hz2 hb2 hx0 hx1
  obtain ⟨C, hC⟩ : ∃ C, dgA (outI s) = C := ⟨_, rfl⟩
  have HC := Lib.hid hC
  rw [hC] at HI HO HS ⊢
  clear hC
  go_wp2_with (refine wpList_store_row rfl 22 _ _ rfl (w.heap.size + 1) C rfl rfl 22 (dgA (List.replicate 8 0)) HZ2.out HI.out HS.out HO.out ?_)
  refine bodyPost_ret (results_cell_row (p := 2) (ty := 22) rfl _ _ (w.heap.size + 1) 22 C (0, 0) _ rfl (setRow_heap _ _ _ _ _ _ HZ2.out) Try.underlying22 rfl HI.out) rfl ?_
  rw [← HC.out]
  exact ⟨rfl, below_setRow HB2.out (Nat.le_succ _) _⟩

theorem begin_any (w : World) (kind : Int) :
    Calls Try.prog 123 #[.int .u64 kind] w fun e w' => e = .returned (.agg #[.int .u64 (beginI kind).a, .int .u64 (beginI kind).b, .int .u64 (beginI kind).c, .int .u64 (beginI kind).d]) ∧ Below w.heap.size w w' := by
  go_enter Try.func123, Try.ntmps123
  go_wp2_with fail
  refine bodyPost_ret (v := .agg #[.int .u64 2611923443488327891, .int .u64 1376283091369227076, .int .u64 11820040416388919760, .int .u64 kind]) (by simp [results, Try.results123, go_sem]) rfl ⟨rfl, ?_⟩
  repeat (first | exact Below.refl _ _ | refine Below.setCell ?_ (by simp) _ | refine Below.alloc ?_ (by simp) _)
theorem rbegin_any (w : World) (kind : Int) :
    Calls Try.prog 131 #[.int .u64 kind] w fun e w' => e = .returned (.agg #[.int .u64 (beginI kind).a, .int .u64 (beginI kind).b, .int .u64 (beginI kind).c, .int .u64 (beginI kind).d]) ∧ Below w.heap.size w w' := by
  go_enter Try.func131, Try.ntmps131
  go_wp2_with fail
  refine bodyPost_ret (v := .agg #[.int .u64 2611923443488327891, .int .u64 1376283091369227076, .int .u64 11820040416388919760, .int .u64 kind]) (by simp [results, Try.results131, go_sem]) rfl ⟨rfl, ?_⟩
  repeat (first | exact Below.refl _ _ | refine Below.setCell ?_ (by simp) _ | refine Below.alloc ?_ (by simp) _)

set_option maxRecDepth 20000 in
theorem in_any (w : World) (s : St) (n : Int) :
    Calls Try.prog 138 #[.agg #[.int .u64 s.a, .int .u64 s.b, .int .u64 s.c, .int .u64 s.d], .int .u64 n] w fun e w' =>
      e = .returned (.agg #[.int .u64 (takeI s n).a, .int .u64 (takeI s n).b, .int .u64 (takeI s n).c, .int .u64 (takeI s n).d]) ∧ Below w.heap.size w w' := by
  obtain ⟨w1, hw1⟩ : ∃ w1, (w.alloc (.cells #[.int .u64 s.a, .int .u64 s.b, .int .u64 s.c, .int .u64 s.d] 188)).alloc (.cells #[.int .u64 0, .int .u64 0, .int .u64 0, .int .u64 0] 188) = w1 := ⟨_, rfl⟩
  have hrs : RS w w1 s := ⟨hw1 ▸ (Bk.new w _ #[.int .u64 s.a, .int .u64 s.b, .int .u64 s.c, .int .u64 s.d]).alloc _, hw1 ▸ Bk.at_ _ _ #[.int .u64 0, .int .u64 0, .int .u64 0, .int .u64 0] (by simp) rfl, hw1 ▸ (below_new w _).alloc (by simp) _⟩
  have HW := Lib.hid hw1
  obtain ⟨hlt0, c0, c1, c2, c3, cf⟩ := hrs.cells
  have H1 := Lib.hid (hrs.set0 (xorI s.a n))
  clear hw1 hrs
  go_enter Try.func138, Try.ntmps138
  go_upto_region 1 with fail
  rw [HW.out]
  go_wp2_with fail
  rw [show bits .xor .u64 s.a n = xorI s.a n from rfl]
  refine (rstir_any _ ⟨xorI s.a n, s.b, s.c, s.d⟩).mono ?_
  rintro e w2 ⟨rfl, hb2⟩
  have hz2 : StAt w2 (w.heap.size + 1) 188 ⟨0, 0, 0, 0⟩ := Bk.later H1.out.zs hb2
  obtain ⟨d0, d1, d2, d3, df⟩ := hz2.cells
  have hlt2 : w.heap.size + 1 < w2.heap.size := Bk.lt hz2
  have HB := Lib.hid (H1.out.bl.trans (hb2.mono H1.out.bl.size))
  clear hz2 hb2
  rw [show stirI ⟨xorI s.a n, s.b, s.c, s.d⟩ = takeI s n from rfl]
  go_wp2_with fail
  refine bodyPost_ret (v := .agg #[.int .u64 (takeI s n).a, .int .u64 (takeI s n).b, .int .u64 (takeI s n).c, .int .u64 (takeI s n).d]) (by simp [results, Try.results138, go_sem, d0, d1, d2, d3]) rfl ?_
  exact ⟨rfl, (((HB.out.setCell (Nat.le_succ _) _).setCell (Nat.le_succ _) _).setCell (Nat.le_succ _) _).setCell (Nat.le_succ _) _⟩
end Go.Proofs.Ythibihjblodfmaa
