/- The digest of bytes: the program's and the document's. -/
import Derived.Test.YtbpmomedhdmloaaDoorQ1
import Derived.Test.YtbpmomedhdmloaaDoorS1
import Derived.Test.YtbpmomedhdmloaaDoorHB
namespace Go.Proofs.YtbpmomedhdmloaaDoor
open Go.RowKit

def ofI (bs : List Int) : List Int := outI (bytesI (beginI 1) bs)
theorem ofI_ok (bs : List Int) : DgOk (ofI bs) := outI_ok _
theorem r8d_size (ds : List Int) (h : DgOk ds) : (Tryd.prog.info? 22).map (·.size) = some (dl ds).length := by
  have := (rdg_info ds h).out; rwa [dgA_size, ← dl_len ds] at this
theorem hdg_size (ds : List Int) (h : DgOk ds) : (Tryd.prog.info? 28).map (·.size) = some (dl ds).length := by
  have := (dg_info ds h).out; rwa [dgA_size, ← dl_len ds] at this
theorem dl_one' (ds : List Int) : ∀ v ∈ dl ds, v.oneCell' = true := ints_one _ _

set_option maxRecDepth 20000 in
theorem hof_any (w : World) (A : Option Addr) (n c : Nat) (bs : List Int) (hs : Sl w w.heap.size 1 A n (bs.map (.int .u8))) (hb : ByOk bs) (hc : n ≤ c) (hA : ∀ ad, A = some ad → ad.block < w.heap.size) :
    Calls Tryd.prog 30 #[.slice A n c] w fun e w' => e = .returned (.agg (dl (ofI bs)).toArray) ∧ Below w.heap.size w w' := by
  obtain ⟨w1, hw1⟩ : ∃ w1, w.alloc (.cells #[.int .u8 0, .int .u8 0, .int .u8 0, .int .u8 0, .int .u8 0, .int .u8 0, .int .u8 0, .int .u8 0] 28) = w1 := ⟨_, rfl⟩
  have hb1 : Below w.heap.size w w1 := hw1 ▸ below_new w _
  have kz : Bk w1 w.heap.size 28 ([] ++ (dl zeroD ++ [])) := hw1 ▸ Bk.new' w _ _ rfl
  have HW := Lib.hid hw1; have HB1 := Lib.hid hb1; have HKZ := Lib.hid kz; have HS := Lib.hid (hs.later hb1); have HY := Lib.hid hb; have HA := Lib.hid hA
  clear hw1 hb1 kz hs hb hA
  go_enter Tryd.func30, Tryd.ntmps30
  go_upto_region 1 with fail
  rw [HW.out]
  go_wp2_with fail
  refine (begin_any _ _).mono ?_
  rintro e w2 ⟨rfl, hb2⟩
  obtain ⟨s0, hs0⟩ : ∃ s0, beginI 1 = s0 := ⟨_, rfl⟩
  rw [hs0]
  have HS0 := Lib.hid hs0; clear hs0
  obtain ⟨w3, hw3⟩ : ∃ w3, w2.alloc (.cells #[.int .u64 s0.a, .int .u64 s0.b, .int .u64 s0.c, .int .u64 s0.d] 98) = w3 := ⟨_, rfl⟩
  obtain ⟨g, hg⟩ : ∃ g, w2.heap.size = g := ⟨_, rfl⟩
  have hs3 : StAt w3 g 98 s0 := hw3 ▸ Bk.at_ _ _ #[.int .u64 s0.a, .int .u64 s0.b, .int .u64 s0.c, .int .u64 s0.d] hg rfl
  have hb3 : Below w1.heap.size w1 w3 := hw3 ▸ hb2.trans ((below_new _ _).mono hb2.size)
  have hg1 : w1.heap.size ≤ g := by rw [← hg]; exact hb2.size
  have HW3 := Lib.hid hw3; have HS3 := Lib.hid hs3; have HB3 := Lib.hid hb3; have HG := Lib.hid hg
  have HSL := Lib.hid (HS.out.later hb3)
  have HAG : Hid (∀ ad, A = some ad → ad.block ≠ g) := fun ad e => by have := HA.out ad e; have := HB1.out.size; omega
  clear hb2 hw3 hs3 hb3 hg
  go_upto_region 2 with fail
  rw [HW3.out, HG.out]
  go_wp2_with fail
  refine (bytes_any _ _ _ HS3.out _ _ _ _ HSL.out HY.out hc HAG.out).mono ?_
  rintro e w7 ⟨rfl, hs7, hg7⟩
  have HB7 := Lib.hid (below_only HB3.out hg7 HB3.out.size hg1)
  have HS7 := Lib.hid hs7
  clear hs7 hg7
  go_wp2_with fail
  refine (gives_any _ _ _ HS7.out).mono ?_
  rintro e w8 ⟨rfl, hb8⟩
  rw [show outI (bytesI s0 bs) = ofI bs by rw [← HS0.out]; rfl, ← dl_dgA]
  have HB8 := Lib.hid (HB7.out.trans (hb8.mono HB7.out.size))
  clear hb8
  have HZ8 := Lib.hid (HKZ.out.later HB8.out)
  have HD := Lib.hid (hdg_size _ (ofI_ok bs)); have HL : Hid ((dl zeroD).length = (dl (ofI bs)).length) := by show _ = _; rw [dl_len, dl_len, (ofI_ok bs).len]; rfl
  obtain ⟨C, hC⟩ : ∃ C, dl (ofI bs) = C := ⟨_, rfl⟩
  have HC1 : Hid (∀ v ∈ C, v.oneCell' = true) := by rw [← hC]; exact dl_one' _
  have HCC := Lib.hid hC
  rw [hC] at HD HL ⊢
  clear hC
  go_wp2_with (with_reducible refine stop_store 28 _ _ rfl ?_)
  refine StopD.go ?_
  refine wpList_store_part rfl 28 _ _ rfl w.heap.size 0 (.agg C.toArray) C rfl rfl rfl 28 [] (dl zeroD) [] HZ8.out rfl HL.out HD.out HC1.out ?_
  intro w9 hp9
  have HK9 : Hid (Bk w9 w.heap.size 28 C) := by show Bk _ _ _ _; have := hp9.bk; simpa using this
  have HB9 := Lib.hid (below_only (below_then HB1.out HB8.out) hp9.only (below_then HB1.out HB8.out).size (Nat.le_refl _))
  clear hp9
  go_wp2_with fail
  refine bodyPost_ret (results_cell_bk rfl _ _ w.heap.size 28 C _ rfl HK9.out Tryd.underlying28 rfl HD.out) rfl ?_
  exact ⟨by rw [HCC.out], HB9.out⟩

end Go.Proofs.YtbpmomedhdmloaaDoor
