/- A ring is made. -/
import Derived.Test.YtakfdlokgddaoaaDoorWC
namespace Go.Proofs.YtakfdlokgddaoaaDoor
set_option linter.unusedSimpArgs false
set_option linter.unusedVariables false
open Go.RowKit Go.Maps

theorem rg_build {sec : List Int} (hs : DgOk sec) (h : Int) (b : Nat) (w : World) : (Instr.build 67 #[(0, .agg (dl sec).toArray), (1, .int .i64 h), (4, .map (some b))]).run Tryd.prog w = .ok (.agg (rgC sec h (.pointer none) (.slice none 0 0) (.map (some b))).toArray) w := by
  obtain ⟨x0, x1, x2, x3, x4, x5, x6, x7, rfl⟩ := list8 sec hs.len
  kernel_rfl
theorem rg_size {sec : List Int} (hs : DgOk sec) {h : Int} {tp V m : Value} : (Tryd.prog.info? 67).map (·.size) = some (rgC sec h tp V m).length := by
  rw [rgC, List.length_append, dl_len, hs.len]; kernel_rfl
def RetNew (w : World) (sec : List Int) (h : Nat) (e : Ending) (w' : World) : Prop :=
  ∃ g b T tlo thi, e = .returned (.tuple #[.pointer (some ⟨g, 0, none⟩), .int .i64 0]) ∧ RingAt w' w.heap.size g b (.slice none 0 0) T tlo thi sec h [] ∧ Below w.heap.size w w'
theorem leavesI_at' (sec : List Int) {h k p : Nat} (hp : 2 ^ h = p) (hk : k < p) : (leavesI sec h)[k]? = some (pubI (ownI sec k)) := leavesI_at sec (by omega)
set_option maxRecDepth 20000 in
set_option maxHeartbeats 4000000 in
theorem knew_any (w : World) (sec : List Int) (hs : DgOk sec) (h : Nat) (hh : h ≤ 8) :
    Calls Tryd.prog 5 #[.agg (dl sec).toArray, .int .i64 h] w (RetNew w sec h) := by
  obtain ⟨X, hX⟩ : ∃ X, (dl sec).toArray = X := ⟨_, rfl⟩
  obtain ⟨z, hz⟩ : ∃ z, w.heap.size = z := ⟨_, rfl⟩
  obtain ⟨w1, hw1⟩ : ∃ w1, w.alloc (.cells X 23) = w1 := ⟨_, rfl⟩
  have hb1 : Below w.heap.size w w1 := hw1 ▸ below_new w _
  have kx : Bk w1 z 23 (dl sec) := hw1 ▸ Bk.at_ w _ X hz (by rw [← hX])
  have hz1 : w1.heap.size = z + 1 := by rw [← hw1, ← hz]; simp
  obtain ⟨w2, hw2⟩ : ∃ x, w1.alloc (.map #[] 0) = x := ⟨_, rfl⟩
  have hm2 : LMap w2 (z + 1) 0 [] := by rw [← hw2, ← hz1]; exact World.ownsMap_made w1 _ _ _
  have hb2 : Below w1.heap.size w1 w2 := hw2 ▸ below_new w1 _
  have hz2 : w2.heap.size = z + 2 := by rw [← hw2]; simp [hz1]
  obtain ⟨Y, hY⟩ : ∃ Y, (rgC sec h (.pointer none) (.slice none 0 0) (.map (some (z + 1)))).toArray = Y := ⟨_, rfl⟩
  obtain ⟨w3, hw3⟩ : ∃ x, w2.alloc (.cells Y 67) = x := ⟨_, rfl⟩
  have hb3 : Below w2.heap.size w2 w3 := hw3 ▸ below_new w2 _
  have kg : Bk w3 (z + 2) 67 (rgC sec h (.pointer none) (.slice none 0 0) (.map (some (z + 1)))) := hw3 ▸ Bk.at_ w2 _ Y hz2 (by rw [← hY])
  have hm3 : LMap w3 (z + 1) 0 [] := hw3 ▸ World.ownsMap.alloc hm2 _
  have hz3 : w3.heap.size = z + 3 := by rw [← hw3]; simp [hz2]
  obtain ⟨hsh, hpl⟩ := shl_num h (by omega)
  have hpb := pow_le8 hh
  have HLA := Lib.hid (fun k p hp hk => leavesI_at' sec (h := h) (k := k) (p := p) hp hk)
  have HLL := leavesI_len sec h
  obtain ⟨p, hp⟩ : ∃ p, 2 ^ h = p := ⟨_, rfl⟩
  rw [hp] at hsh hpl hpb HLL
  have HLAt := Lib.hid (fun k hk => HLA.out k p hp hk)
  have HLO := Lib.hid (leavesI_ok sec h)
  obtain ⟨xs, hxs⟩ : ∃ xs, leavesI sec h = xs := ⟨_, rfl⟩
  have HXE := Lib.hid hxs
  rw [hxs] at HLAt HLO HLL
  have HXL := Lib.hid HLL
  have hmk : ∀ W, (Instr.makeSlice 32 (.int .i64 p) (.int .i64 p)).run Tryd.prog W = .ok (.slice (some ⟨W.heap.size, 0, none⟩) p p) (W.alloc (.cells (madeCells zeroC (p * 8)) 23)) := fun W => make_dg p (by omega) W
  have hmm : ∀ W, (Instr.makeMap 64 none).run Tryd.prog W = .ok (.map (some W.heap.size)) (W.alloc (.map #[] 0)) := fun W => by kernel_rfl
  obtain ⟨w4, hw4⟩ : ∃ x, w3.alloc (.cells (madeCells zeroC (p * 8)) 23) = x := ⟨_, rfl⟩
  have hE4 : Bk w4 (z + 3) 23 (cellsD (fillD xs 0)) := by rw [← hw4, ← hz3, fillD_zero, HLL]; exact made_bk w3 p
  have hb4 : Below w3.heap.size w3 w4 := hw4 ▸ below_new w3 _
  have HBB4 := Lib.hid (below_then (below_then (below_then hb1 hb2) hb3) hb4)
  have HG4 := Lib.hid (kg.later hb4)
  have HM4 : Hid (LMap w4 (z + 1) 0 []) := by show LMap _ _ _ _; rw [← hw4]; exact World.ownsMap.alloc hm3 _
  have HE4 := Lib.hid hE4
  have HK1 := Lib.hid kx; have HZ := Lib.hid hz; have HZ3 := Lib.hid hz3; have HSO := Lib.hid hs; have HHH := Lib.hid hh; have HPB := Lib.hid hpb; have HPE := Lib.hid hp; have HYE := Lib.hid hY
  have HRB := Lib.hid (fun W => rg_build hs (h : Int) (z + 1) W)
  have HW := Lib.hid hw1; have HW2 := Lib.hid hw2; have HW3 := Lib.hid hw3; have HW4 := Lib.hid hw4; have HZ1 := Lib.hid hz1; have HXX := Lib.hid hX
  rw [hX]
  rw [hY] at HRB
  clear hX hw1 hb1 kx hz hs hz1 hm2 hb2 hz2 hY hw2 hw3 hb3 kg hm3 hz3 hpl hpb HLA HLL hp hxs hw4 hE4 hb4
  have h0 : (0 : Int) ≤ h := by omega
  have h8 : (h : Int) ≤ 8 := by omega
  go_enter Tryd.func5, Tryd.ntmps5
  go_upto_region 1 with fail
  rw [HW.out, HZ.out]
  go_upto_region 4 with (first
    | (with_reducible refine wpList_load_bk rfl 23 _ rfl z rfl (dl sec) 23 HK1.out _ Tryd.underlying23 rfl (hdg_size _ HSO.out) ?_)
    | ((with_reducible refine wpList_build rfl 67 _ rfl #[(0, .agg (dl sec).toArray), (1, .int .i64 h), (4, .map (some (z + 1)))] ?_ _ (HRB.out _) ?_); focus (simp [Act.eval, Act.put, HZ1.out]; done)))
  rw [show w1.heap.size + 1 = z + 2 by rw [HZ1.out], HZ1.out, HW2.out, HW3.out]
  clear HRB hmm HK1
  go_upto_region 5 with fail
  rw [HW4.out, HZ3.out]
  clear hmk
  have hp0 : (0 : Int) ≤ p := by omega
  go_wp2_with fail
  go_loopw [8, 27] (fun _ kv wr => ∃ k : Nat, k ≤ p ∧ kv = .int .i64 k ∧ Hid (Bk wr (z + 3) 23 (cellsD (fillD xs k))) ∧ Hid (Bk wr (z + 2) 67 (rgC sec h (.pointer none) (.slice none 0 0) (.map (some (z + 1))))) ∧ Hid (LMap wr (z + 1) 0 []) ∧ Hid (Below w.heap.size w wr)) (fun _ kv _ => p - (intOf kv).toNat)
  case atStart => exact ⟨0, Nat.zero_le _, rfl, HE4, HG4, HM4, HBB4⟩
  case round =>
    obtain ⟨k, hk, rfl, HE, HG, HM, HB⟩ := hrel
    by_cases hlt : k < p
    · have hki : (k : Int) < p := by omega
      have hk0 : (0 : Int) ≤ k := by omega
      have HXK := Lib.hid (HLAt.out k hlt)
      have hpp := HPB.out
      have HOW := Lib.hid (own_any wr (z + 2) sec h (.pointer none) (.slice none 0 0) (.map (some (z + 1))) HSO.out HG.out k (by omega))
      have HOO := Lib.hid (ownI_ok sec k)
      have HDO := Lib.hid (pubI_ok (ownI sec k))
      obtain ⟨S, hS⟩ : ∃ S, ownI sec k = S := ⟨_, rfl⟩
      rw [hS] at HOW HOO HDO HXK
      have HPU := Lib.hid (fun w' => public_any w' S HOO.out)
      obtain ⟨d, hd⟩ : ∃ d, pubI S = d := ⟨_, rfl⟩
      rw [hd] at HDO HXK HPU
      clear hS hd
      go_wp2_with fail
      refine HOW.out.mono ?_
      rintro e w5 ⟨rfl, hbn⟩
      have HE5 := Lib.hid (HE.out.later hbn); have HG5 := Lib.hid (HG.out.later hbn); have HB5 := Lib.hid (below_then HB.out hbn)
      have HM5 : Hid (LMap w5 (z + 1) 0 []) := World.ownsMap.kept (row := none) HM.out ⟨hbn.os, hbn.tape, hbn.output, hbn.size, fun q hq _ => hbn.block q hq⟩ (by simp)
      clear hbn HOW HE HG HB HM
      go_wp2_with fail
      refine (HPU.out w5).mono ?_
      rintro e w6 ⟨rfl, hbn⟩
      have HE6 := Lib.hid (HE5.out.later hbn); have HG6 := Lib.hid (HG5.out.later hbn); have HB6 := Lib.hid (below_then HB5.out hbn)
      have HM6 : Hid (LMap w6 (z + 1) 0 []) := World.ownsMap.kept (row := none) HM5.out ⟨hbn.os, hbn.tape, hbn.output, hbn.size, fun q hq _ => hbn.block q hq⟩ (by simp)
      clear hbn HPU HE5 HG5 HB5 HM5
      go_wp2_with (with_reducible refine stop_store 23 _ _ rfl ?_)
      refine StopD.go ?_
      refine wpList_store_part rfl 23 _ _ rfl (z + 3) (k * 8) (.agg (dl d).toArray) (dl d) rfl rfl rfl 23 (cellsD (xs.take k)) (dl zeroD) (cellsD (List.replicate (xs.length - (k + 1)) zeroD)) (by rw [← fillD_old (by rw [HXL.out]; exact hlt)]; exact HE6.out) (take_lenD HLO.out (by rw [HXL.out]; omega)) (dg_lensw HDO.out) (hdg_size _ HDO.out) (dl_one' _) ?_
      intro w7 hp
      have HE7 : Hid (Bk w7 (z + 3) 23 (cellsD (fillD xs (k + 1)))) := by show Bk _ _ _ _; rw [← fillD_new HXK.out]; exact hp.bk
      have HG7 := Lib.hid (HG6.out.grown hp.only (by intro e; injection e with e; omega)); have HB7 := Lib.hid (below_only HB6.out hp.only HB6.out.size (by have := HZ.out; omega))
      have HM7 : Hid (LMap w7 (z + 1) 0 []) := World.ownsMap.kept HM6.out hp.only (by intro e; injection e with e; omega)
      clear hp HE6 HG6 HB6 HM6
      go_wp2_with fail
      go_roundw
      case rel => exact ⟨k + 1, hlt, by go_num, HE7, HG7, HM7, HB7⟩
      case measure => simp [intOf]; omega
    · have hki : ¬ ((k : Int) < p) := by omega
      obtain rfl : k = p := by omega
      have hE : Bk wr (z + 3) 23 (cellsD xs) := by have := HE.out; rwa [show fillD xs k = xs by have := fillD_all xs; rwa [HXL.out] at this] at this
      have hpp := HPB.out
      have hsl : Sl wr wr.heap.size 8 (some ⟨z + 3, 0, none⟩) k (cellsD xs) := hE.sl (by rw [cellsD_len HLO.out, HXL.out]) (by omega) (fun j u h => h)
      have HTN := Lib.hid (tNew_any wr (some ⟨z + 3, 0, none⟩) k k xs HLO.out hsl (by omega))
      have HGL : Hid (z + 2 < wr.heap.size) := HG.out.lt
      clear hE hsl hpp HE
      go_wp2_with fail
      refine HTN.out.mono ?_
      rintro e w5 ⟨T, thi, rfl, ht, hbn⟩
      have HG5 := Lib.hid (HG.out.later hbn); have HB5 := Lib.hid (below_then HB.out hbn); have HT5 := Lib.hid ht
      have HM5 : Hid (LMap w5 (z + 1) 0 []) := World.ownsMap.kept (row := none) HM.out ⟨hbn.os, hbn.tape, hbn.output, hbn.size, fun q hq _ => hbn.block q hq⟩ (by simp)
      clear hbn HTN HG HB HM ht
      go_wp2_with (with_reducible refine stop_store 65 _ _ rfl ?_)
      refine StopD.go ?_
      have ls := HSO.out.len
      refine wpList_store_part rfl 65 _ _ rfl (z + 2) 9 (.pointer (some ⟨T.g, 0, none⟩)) [.pointer (some ⟨T.g, 0, none⟩)] rfl rfl rfl 67 (dl sec ++ [.int .i64 h]) [.pointer none] [.slice none 0 0, .map (some (z + 1))] (by have := HG5.out; simpa [rgC] using this) (by simp [dl_len, ls]) rfl (by kernel_rfl) (by simp [Value.oneCell']) ?_
      intro w6 hp
      have HG6 : Hid (Bk w6 (z + 2) 67 (rgC sec h (.pointer (some ⟨T.g, 0, none⟩)) (.slice none 0 0) (.map (some (z + 1))))) := by show Bk _ _ _ _; have := hp.bk; simpa [rgC] using this
      have HM6 : Hid (LMap w6 (z + 1) 0 []) := World.ownsMap.kept HM5.out hp.only (by intro e; injection e with e; omega)
      have HT6 : Hid (TreeOf w6 wr.heap.size thi T xs) := HT5.out.keep hp.only.size fun i h5 h6 => hp.only.block i (Nat.lt_of_lt_of_le h6 HT5.out.hi_le) (by intro e; injection e with e; have := HGL.out; omega)
      have HB6 := Lib.hid (below_only HB5.out hp.only HB5.out.size (by have := HZ.out; omega))
      clear hp HG5 HM5 HT5 HB5
      go_wp2_with fail
      go_ret2
      refine ⟨z + 2, z + 1, T, wr.heap.size, thi, rfl, ⟨⟨HG6.out, World.ownsRow_nil _ _ _ _, HM6.out, by have := HZ.out; omega, by have := HZ.out; omega, (fun d hd => by cases hd), List.nodup_nil⟩, ?_, ?_, ?_, ?_, ?_, HHH.out, HSO.out, Nat.zero_le _⟩, HB6.out⟩
      · rw [HXE.out]; exact HT6.out
      · have := HZ.out; have := HGL.out; omega
      · left; exact HGL.out
      · left; have := HGL.out; omega
      · intro q hq; cases hq
end Go.Proofs.YtakfdlokgddaoaaDoor
