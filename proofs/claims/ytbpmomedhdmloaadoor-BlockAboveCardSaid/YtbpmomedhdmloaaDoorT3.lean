/- Leaves' nodes, roots: the program's and the document's. -/
import Derived.Test.YtbpmomedhdmloaaDoorT2
namespace Go.Proofs.YtbpmomedhdmloaaDoor
open Go.RowKit

def leafS : ByteArray := ⟨#[108, 101, 97, 102]⟩
def noneS : ByteArray := ⟨#[110, 111, 110, 101]⟩
theorem zeroD_ok : DgOk zeroD := ⟨rfl, fun b hb => by rw [List.eq_of_mem_replicate hb]; omega⟩
def lowI (d : List Int) : List Int := wordI d (bytesOf leafS)
def lackI : List Int := wordI zeroD (bytesOf noneS)
def topI (d : List Int) (h : Nat) : List Int := wordI d (bytesOf (rootS h))
theorem lowI_ok (d : List Int) : DgOk (lowI d) := wordI_ok _ _
theorem lackI_ok : DgOk lackI := wordI_ok _ _
theorem topI_ok (d : List Int) (h : Nat) : DgOk (topI d h) := wordI_ok _ _

/-- Eight cells stored, one after the other. -/
theorem Bk.put8 {w : World} {g : Nat} {t : TypeId} {z : List Int} (h : DgAt w g t z) (hz : z.length = 8) (o0 o1 o2 o3 o4 o5 o6 o7 : Int) :
    DgAt ((((((((w.setCell ⟨g, 0, none⟩ (.int .u8 o0)).setCell ⟨g, 1, none⟩ (.int .u8 o1)).setCell ⟨g, 2, none⟩ (.int .u8 o2)).setCell ⟨g, 3, none⟩ (.int .u8 o3)).setCell ⟨g, 4, none⟩ (.int .u8 o4)).setCell ⟨g, 5, none⟩ (.int .u8 o5)).setCell ⟨g, 6, none⟩ (.int .u8 o6)).setCell ⟨g, 7, none⟩ (.int .u8 o7)) g t [o0, o1, o2, o3, o4, o5, o6, o7] := by
  obtain ⟨z0, z1, z2, z3, z4, z5, z6, z7, rfl⟩ := list8 z hz
  exact Bk.set_ (Bk.set_ (Bk.set_ (Bk.set_ (Bk.set_ (Bk.set_ (Bk.set_ (Bk.set_ h 0 (.int .u8 o0)) 1 (.int .u8 o1)) 2 (.int .u8 o2)) 3 (.int .u8 o3)) 4 (.int .u8 o4)) 5 (.int .u8 o5)) 6 (.int .u8 o6)) 7 (.int .u8 o7)
theorem below_put8 {B g : Nat} {w0 w : World} (h : Below B w0 w) (hg : B ≤ g) (o0 o1 o2 o3 o4 o5 o6 o7 : Int) :
    Below B w0 ((((((((w.setCell ⟨g, 0, none⟩ (.int .u8 o0)).setCell ⟨g, 1, none⟩ (.int .u8 o1)).setCell ⟨g, 2, none⟩ (.int .u8 o2)).setCell ⟨g, 3, none⟩ (.int .u8 o3)).setCell ⟨g, 4, none⟩ (.int .u8 o4)).setCell ⟨g, 5, none⟩ (.int .u8 o5)).setCell ⟨g, 6, none⟩ (.int .u8 o6)).setCell ⟨g, 7, none⟩ (.int .u8 o7)) :=
  (((((((h.setCell (p := ⟨g, 0, none⟩) hg _).setCell (p := ⟨g, 1, none⟩) hg _).setCell (p := ⟨g, 2, none⟩) hg _).setCell (p := ⟨g, 3, none⟩) hg _).setCell (p := ⟨g, 4, none⟩) hg _).setCell (p := ⟨g, 5, none⟩) hg _).setCell (p := ⟨g, 6, none⟩) hg _).setCell (p := ⟨g, 7, none⟩) hg _
theorem only_put8 {g : Nat} {w0 w : World} (h : w0.grownBy w (some g)) (o0 o1 o2 o3 o4 o5 o6 o7 : Int) :
    w0.grownBy ((((((((w.setCell ⟨g, 0, none⟩ (.int .u8 o0)).setCell ⟨g, 1, none⟩ (.int .u8 o1)).setCell ⟨g, 2, none⟩ (.int .u8 o2)).setCell ⟨g, 3, none⟩ (.int .u8 o3)).setCell ⟨g, 4, none⟩ (.int .u8 o4)).setCell ⟨g, 5, none⟩ (.int .u8 o5)).setCell ⟨g, 6, none⟩ (.int .u8 o6)).setCell ⟨g, 7, none⟩ (.int .u8 o7)) (some g) :=
  only_set (only_set (only_set (only_set (only_set (only_set (only_set (only_set h _ _) _ _) _ _) _ _) _ _) _ _) _ _) _ _

theorem low_any (w : World) (d : List Int) (hd : DgOk d) :
    Calls Tryd.prog 82 #[.agg (dgA d)] w fun e w' => e = .returned (.agg (dgA (lowI d))) ∧ Below w.heap.size w w' := by
  obtain ⟨w1, hw1⟩ : ∃ w1, (w.alloc (.cells (dgA d) 28)).alloc (.cells (dgA zeroD) 28) = w1 := ⟨_, rfl⟩
  have kd : DgAt w1 w.heap.size 28 d := hw1 ▸ Bk.alloc (dg_new w _ _) _
  have kz : DgAt w1 (w.heap.size + 1) 28 zeroD := hw1 ▸ Bk.at_ _ _ _ (by simp) (dgA_list _)
  have hb1 : Below w.heap.size w w1 := hw1 ▸ (below_new w _).alloc (by simp) _
  have HKZ := Lib.hid kz; have HB1 := Lib.hid hb1; have HW := Lib.hid hw1
  have HC1 := Lib.hid kd.heap
  have HID := dg_info d hd
  clear kd kz hb1 hw1
  go_enter Tryd.func82, Tryd.ntmps82
  go_upto_region 1 with fail
  rw [zero8, show List.replicate 8 (0 : Int) = zeroD from rfl, HW.out]
  go_wp2_with (refine wpList_load_row rfl 28 _ rfl w.heap.size rfl 28 (dgA d) (0, 0) _ HC1.out Tryd.underlying28 rfl HID.out ?_)
  refine (word_any _ d hd _ (by decide)).mono ?_
  rintro e w2 ⟨rfl, hb2⟩
  have HB2 := Lib.hid (HB1.out.trans (hb2.mono HB1.out.size))
  have HZ2 := Lib.hid (HKZ.out.later hb2).heap
  clear hb2
  rw [show wordI d (bytesOf { data := #[108, 101, 97, 102] }) = lowI d from rfl]
  have HI := dg_info (lowI d) (lowI_ok _)
  have HO := Lib.hid (dgA_one (lowI d))
  have HS : Hid ((dgA zeroD).size = (dgA (lowI d)).size) := by show _ = _; rw [dgA_size, dgA_size, (lowI_ok d).len]; rfl
  obtain ⟨C, hC⟩ : ∃ C, dgA (lowI d) = C := ⟨_, rfl⟩
  have HC := Lib.hid hC
  rw [hC] at HI HO HS ⊢
  clear hC
  go_wp2_with (refine wpList_store_row rfl 28 _ _ rfl (w.heap.size + 1) C rfl rfl 28 (dgA zeroD) HZ2.out HI.out HS.out HO.out ?_)
  refine bodyPost_ret (results_cell_row (p := 2) (ty := 28) rfl _ _ (w.heap.size + 1) 28 C (0, 0) _ rfl (setRow_heap _ _ _ _ _ _ HZ2.out) Tryd.underlying28 rfl HI.out) rfl ?_
  rw [← HC.out]
  exact ⟨rfl, below_setRow HB2.out (by omega) _⟩
end Go.Proofs.YtbpmomedhdmloaaDoor
