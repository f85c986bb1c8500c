/- Trees: their roots, their leaves. -/
import Derived.Test.YtbpmomedhdmloaaDoorT14
namespace Go.Proofs.YtbpmomedhdmloaaDoor
open Go.RowKit

/-- A tree of leaves, whole. -/
def TreeOf (w : World) (lo hi : Nat) (T : Tr) (ls : List (List Int)) : Prop := ∃ ns, TreeAt w lo hi T (heightI ls.length) (heightI ls.length + 1) ls ns ∧ ∀ j, j ≤ heightI ls.length → ns j = levelI ls (heightI ls.length) j
theorem TreeOf.keep {w w' : World} {lo hi : Nat} {T : Tr} {ls : List (List Int)} (t : TreeOf w lo hi T ls) (hs : w.heap.size ≤ w'.heap.size) (hk : ∀ b, lo ≤ b → b < hi → w'.heap[b]? = w.heap[b]?) : TreeOf w' lo hi T ls := by
  obtain ⟨ns, t, e⟩ := t
  exact ⟨ns, t.keep hs hk, e⟩
theorem TreeOf.later {w w' : World} {lo hi : Nat} {T : Tr} {ls : List (List Int)} (t : TreeOf w lo hi T ls) (hb : Below w.heap.size w w') : TreeOf w' lo hi T ls := by
  obtain ⟨ns, t, e⟩ := t
  exact ⟨ns, t.later hb, e⟩

theorem tNew_any (w : World) (A : Option Addr) (n c : Nat) (ls : List (List Int)) (ho : DsOk ls) (hs : Sl w w.heap.size 8 A n (cellsD ls)) (hok : 1 ≤ n ∧ n ≤ 4096) :
    Calls Tryd.prog 66 #[.slice A n c] w fun e w' => ∃ (T : Tr) (hi : Nat), e = .returned (.tuple #[.pointer (some ⟨T.g, 0, none⟩), .int .i64 0]) ∧ TreeOf w' w.heap.size hi T ls ∧ Below w.heap.size w w' := by
  have hl := hs.dgs ho
  refine (new_any w A n c ls ho hs hok).mono ?_
  rintro e w' ⟨T, hi, ns, rfl, t, e1, hb⟩
  subst hl
  exact ⟨T, hi, rfl, ⟨ns, t, e1⟩, hb⟩

set_option maxRecDepth 20000 in
theorem tRoot_any (w : World) (lo hi : Nat) (T : Tr) (ls : List (List Int)) (t : TreeOf w lo hi T ls) :
    Calls Tryd.prog 67 #[.pointer (some ⟨T.g, 0, none⟩)] w fun e w' => e = .returned (.agg (dgA (rootI ls))) ∧ Below w.heap.size w w' := by
  obtain ⟨ns, t, hal⟩ := t
  have h12 := t.hm.2
  have hn4 := t.n12
  have hn1 := t.lc.1
  have hri : rootI ls = topI (nodeI ls (heightI ls.length) 0) (heightI ls.length) := by rw [rootI, if_pos ⟨hn1, hn4⟩]
  obtain ⟨w1, hw1⟩ : ∃ w1, w.alloc (.cells (dgA zeroD) 28) = w1 := ⟨_, rfl⟩
  have kz : DgAt w1 w.heap.size 28 zeroD := hw1 ▸ dg_new w _ _
  have hb1 : Below w.heap.size w w1 := hw1 ▸ below_new w _
  have t1 := t.later hb1
  have HHT := Lib.hid (hgt_any w1 lo hi T _ _ ls ns t1)
  obtain ⟨h, hh⟩ : ∃ h, heightI ls.length = h := ⟨_, rfl⟩
  rw [hh] at t1 hal h12 HHT hri
  have hcell := t1.ncell (l := h) (by omega)
  rw [Nat.sub_self] at hcell
  have hd : (ns h)[0]? = some (nodeI ls h 0) := by rw [hal h (Nat.le_refl _)]; exact levelI_get _ _ _ _ (by rw [Nat.sub_self]; decide)
  have hr := sl_dg (t1.nsl (l := h) (by omega)) (t1.nv h (by omega)).2.2 hd
  rw [Nat.zero_add, Nat.zero_mul] at hr
  have hok := nodeI_ok ls h 0
  have HKZ := Lib.hid kz; have HB1 := Lib.hid hb1; have HW := Lib.hid hw1; have HR := Lib.hid hr; have HRI := Lib.hid hri
  have HI8 : Hid ((Tryd.prog.info? 28).map (·.size) = some ((nodeI ls h 0).map (Value.int .u8)).length) := by
    show _ = _
    rw [List.length_map, hok.len]; exact dg_size
  obtain ⟨g, hg⟩ : ∃ g, T.g = g := ⟨_, rfl⟩
  obtain ⟨bh, hbh⟩ : ∃ bh, T.bn h = bh := ⟨_, rfl⟩
  rw [hg, hbh] at hcell
  rw [hg] at HHT
  rw [hbh] at HR
  rw [hg]
  have i1 : (0 : Int) ≤ (h : Int) := by omega
  have i2 : (h : Int) < 13 := by omega
  clear t t1 hal hd hr hri hg hbh kz hb1 hw1 hh
  go_enter Tryd.func67, Tryd.ntmps67
  go_upto_region 1 with fail
  rw [zero8, show List.replicate 8 (0 : Int) = zeroD from rfl, HW.out]
  go_wp2_with (first
    | (go_at_call 84; refine HHT.out.mono ?_; rintro e w2 ⟨rfl, rfl⟩)
    | (refine wpList_load_mid rfl 28 _ rfl bh 0 rfl ((nodeI ls h 0).map (.int .u8)) _ HR.out Tryd.underlying28 rfl HI8.out ?_))
  refine (top_any _ (nodeI ls h 0) hok (h : Int) (by omega) (by omega)).mono ?_
  rintro e w2 ⟨rfl, hb2⟩
  rw [Int.toNat_natCast, ← HRI.out]
  have HB2 := Lib.hid (HB1.out.trans (hb2.mono HB1.out.size))
  have HZ2 := Lib.hid (HKZ.out.later hb2)
  have HI := dg_info (rootI ls) (rootI_ok _)
  have HO := Lib.hid (dgA_one (rootI ls))
  have HSZ : Hid ((dgA zeroD).size = (dgA (rootI ls)).size) := by show _ = _; rw [dgA_size, dgA_size, (rootI_ok _).len]; rfl
  clear hb2
  go_wp2_with (refine wpList_store_row rfl 28 _ _ rfl w.heap.size (dgA (rootI ls)) rfl rfl 28 (dgA zeroD) HZ2.out.heap HI.out HSZ.out HO.out ?_)
  refine bodyPost_ret (results_cell_row (p := 2) (ty := 28) rfl _ _ w.heap.size 28 (dgA (rootI ls)) (0, 0) _ rfl (setRow_heap _ _ _ _ _ _ HZ2.out.heap) Tryd.underlying28 rfl HI.out) rfl ?_
  exact ⟨rfl, below_setRow HB2.out (by omega) _⟩
theorem tRoot_nil (w : World) :
    Calls Tryd.prog 67 #[.pointer none] w fun e w' => e = .returned (.agg (dgA zeroD)) ∧ Below w.heap.size w w' := by
  obtain ⟨w1, hw1⟩ : ∃ w1, w.alloc (.cells (dgA zeroD) 28) = w1 := ⟨_, rfl⟩
  have kz : DgAt w1 w.heap.size 28 zeroD := hw1 ▸ dg_new w _ _
  have hb1 : Below w.heap.size w w1 := hw1 ▸ below_new w _
  have HKZ := Lib.hid kz; have HB1 := Lib.hid hb1; have HW := Lib.hid hw1
  have HIZ := dg_info zeroD zeroD_ok
  have HOZ := Lib.hid (dgA_one zeroD)
  clear kz hb1 hw1
  go_enter Tryd.func67, Tryd.ntmps67
  go_upto_region 1 with fail
  rw [zero8, show List.replicate 8 (0 : Int) = zeroD from rfl, HW.out]
  go_wp2_with (refine wpList_store_row rfl 28 _ _ rfl w.heap.size (dgA zeroD) rfl rfl 28 (dgA zeroD) HKZ.out.heap HIZ.out rfl HOZ.out ?_)
  refine bodyPost_ret (results_cell_row (p := 2) (ty := 28) rfl _ _ w.heap.size 28 (dgA zeroD) (0, 0) _ rfl (setRow_heap _ _ _ _ _ _ HKZ.out.heap) Tryd.underlying28 rfl HIZ.out) rfl ?_
  exact ⟨rfl, below_setRow HB1.out (by omega) _⟩

set_option maxRecDepth 20000 in
/-- tree.Root of leaves. -/
theorem treeRoot_any (w : World) (A : Option Addr) (n c : Nat) (ls : List (List Int)) (ho : DsOk ls) (hs : Sl w w.heap.size 8 A n (cellsD ls)) :
    Calls Tryd.prog 42 #[.slice A n c] w fun e w' => e = .returned (.tuple #[.agg (dgA (rootI ls)), .int .i64 (rootE n)]) ∧ Below w.heap.size w w' := by
  have hlen := hs.dgs ho
  obtain ⟨w1, hw1⟩ : ∃ w1, w.alloc (.cells (dgA zeroD) 28) = w1 := ⟨_, rfl⟩
  have kz : DgAt w1 w.heap.size 28 zeroD := hw1 ▸ dg_new w _ _
  have hb1 : Below w.heap.size w w1 := hw1 ▸ below_new w _
  have HKZ := Lib.hid kz; have HB1 := Lib.hid hb1; have HW := Lib.hid hw1; have HO := Lib.hid ho
  have HS := Lib.hid ((hs.below hb1).more hb1.size)
  have HL := Lib.hid hlen
  have HI := dg_info (rootI ls) (rootI_ok _)
  have HOK := Lib.hid (dgA_one (rootI ls))
  have HSZ : Hid ((dgA zeroD).size = (dgA (rootI ls)).size) := by show _ = _; rw [dgA_size, dgA_size, (rootI_ok _).len]; rfl
  clear kz hb1 hw1 ho hs hlen
  by_cases hok : 1 ≤ n ∧ n ≤ 4096
  · have HRE := Lib.hid (show rootE n = 0 by rw [rootE, if_pos hok])
    go_enter Tryd.func42, Tryd.ntmps42
    go_upto_region 1 with fail
    rw [zero8, show List.replicate 8 (0 : Int) = zeroD from rfl, HW.out]
    go_wp2_with fail
    refine (tNew_any _ A n c ls HO.out HS.out hok).mono ?_
    rintro e w2 ⟨T, hi, rfl, ht, hb2⟩
    have HT := Lib.hid ht
    have HB2 := Lib.hid (HB1.out.trans (hb2.mono HB1.out.size))
    have HZ2 := Lib.hid (HKZ.out.later hb2)
    clear ht hb2
    go_wp2_with fail
    refine (tRoot_any _ _ hi T ls HT.out).mono ?_
    rintro e w3 ⟨rfl, hb3⟩
    have HB3 := Lib.hid (HB2.out.trans (hb3.mono HB2.out.size))
    have HZ3 := Lib.hid (HZ2.out.later hb3)
    clear hb3
    go_wp2_with (refine wpList_store_row rfl 28 _ _ rfl w.heap.size (dgA (rootI ls)) rfl rfl 28 (dgA zeroD) HZ3.out.heap HI.out HSZ.out HOK.out ?_)
    refine bodyPost_ret (results_row_tmp (p := 2) (u := 3) (ty := 28) rfl _ _ w.heap.size 28 (dgA (rootI ls)) (0, 0) _ rfl (setRow_heap _ _ _ _ _ _ HZ3.out.heap) Tryd.underlying28 rfl HI.out) rfl ?_
    rw [HRE.out]
    exact ⟨rfl, below_setRow HB3.out (by omega) _⟩
  · have HRE := Lib.hid (show rootE n = 2 by rw [rootE, if_neg hok])
    have hri : rootI ls = zeroD := by rw [rootI, HL.out, if_neg hok]
    rw [hri] at HI HOK ⊢
    clear hri HSZ
    go_enter Tryd.func42, Tryd.ntmps42
    go_upto_region 1 with fail
    rw [zero8, show List.replicate 8 (0 : Int) = zeroD from rfl, HW.out]
    go_wp2_with fail
    refine (new_none _ A n c hok).mono ?_
    rintro e w2 ⟨rfl, rfl⟩
    go_wp2_with fail
    refine (tRoot_nil _).mono ?_
    rintro e w3 ⟨rfl, hb3⟩
    have HB3 := Lib.hid (HB1.out.trans (hb3.mono HB1.out.size))
    have HZ3 := Lib.hid (HKZ.out.later hb3)
    clear hb3
    go_wp2_with (refine wpList_store_row rfl 28 _ _ rfl w.heap.size (dgA zeroD) rfl rfl 28 (dgA zeroD) HZ3.out.heap HI.out rfl HOK.out ?_)
    refine bodyPost_ret (results_row_tmp (p := 2) (u := 3) (ty := 28) rfl _ _ w.heap.size 28 (dgA zeroD) (0, 0) _ rfl (setRow_heap _ _ _ _ _ _ HZ3.out.heap) Tryd.underlying28 rfl HI.out) rfl ?_
    rw [HRE.out]
    exact ⟨rfl, below_setRow HB3.out (by omega) _⟩
end Go.Proofs.YtbpmomedhdmloaaDoor
