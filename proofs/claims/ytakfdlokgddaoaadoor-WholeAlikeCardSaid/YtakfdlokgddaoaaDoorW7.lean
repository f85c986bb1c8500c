/- The key that a signature is by, whole. -/
import Derived.Test.YtakfdlokgddaoaaDoorW6
namespace Go.Proofs.YtakfdlokgddaoaaDoor
set_option linter.unusedSimpArgs false
set_option linter.unusedVariables false
open Go.RowKit

theorem told_ret {w : World} {g : Nat} {d : List Int} (hd : DgOk d) (h : Bk w g 23 (dl d)) (tmps : Array Value) (h2 : tmps.getD 4 undef = .pointer (some ⟨g, 0, none⟩)) {e : Value} (h3 : tmps.getD 5 undef = e) :
    (results Tryd.f42 tmps).run Tryd.prog w = .ok (.tuple #[.agg (dl d).toArray, e]) w := by
  have r1 : w.rangeAt g 0 (dl d) := Bk.range (pre := []) (post := []) (by simpa using h) rfl
  have l1 := run_loadVar_mid (P := Tryd.prog) w g 0 23 (dl d) _ r1 Tryd.underlying23 rfl (hdg_size _ hd)
  rw [Array.getD_eq_getD_getElem?] at h2 h3
  simp [results, Tryd.results42, h2, h3, asAddr, l1]
theorem toldI_ok (msg sig : List Int) : DgOk (toldI msg sig) := manyI_ok _
set_option maxRecDepth 20000 in
set_option maxHeartbeats 1000000 in
theorem told_anyW (w : World) (msg : List Int) (hm : DgOk msg) (A : Option Addr) (cc : Nat) (bs : List Int) (hs : Sl w w.heap.size 1 A 144 (bs.map (.int .u8))) (hb : ByOk bs) (hcc : 144 ≤ cc) :
    Calls Tryd.prog 42 #[.agg (dl msg).toArray, .slice A 144 cc] w fun e w' => e = .returned (.tuple #[.agg (dl (toldI msg bs)).toArray, .bool true]) ∧ Below w.heap.size w w' := by
  obtain ⟨X, hX⟩ : ∃ X, (dl msg).toArray = X := ⟨_, rfl⟩
  obtain ⟨z, hz⟩ : ∃ z, w.heap.size = z := ⟨_, rfl⟩
  obtain ⟨w1, hw1⟩ : ∃ w1, ((w.alloc (.cells X 23)).alloc (.cells #[.slice A 144 cc] 29)).alloc (.cells #[.int .u8 0, .int .u8 0, .int .u8 0, .int .u8 0, .int .u8 0, .int .u8 0, .int .u8 0, .int .u8 0] 23) = w1 := ⟨_, rfl⟩
  have hb1 : Below w.heap.size w w1 := hw1 ▸ ((below_new w _).alloc (by simp) _).alloc (by simp; omega) _
  have kx : Bk w1 z 23 (dl msg) := hw1 ▸ ((Bk.at_ w _ X hz (by rw [← hX])).alloc _).alloc _
  have ks : Bk w1 (z + 1) 29 [.slice A 144 cc] := hw1 ▸ (Bk.at_ _ _ #[.slice A 144 cc] (by simp [hz]) rfl).alloc _
  have kr : Bk w1 (z + 2) 23 ([] ++ (dl zeroD ++ [])) := hw1 ▸ Bk.at_ _ _ #[.int .u8 0, .int .u8 0, .int .u8 0, .int .u8 0, .int .u8 0, .int .u8 0, .int .u8 0, .int .u8 0] (by simp [hz]) rfl
  have HW := Lib.hid hw1; have HB1 := Lib.hid hb1; have HZ := Lib.hid hz; have HK1 := Lib.hid kx; have HR1 := Lib.hid kr; have HS1 := Lib.hid ks; have HL1 := Lib.hid (hs.later hb1); have HMO := Lib.hid hm; have HXE := Lib.hid hX
  have HRI : Hid (∀ c, c < 18 → (rchC msg)[c]? = some (.int .i64 (reachI msg c : Int))) := fun c hc => by simp [rchC, hc]
  have HRL := Lib.hid (rchC_len msg); have HRO := Lib.hid (rchC_one msg)
  have HRC := Lib.hid (fun w' => reach_any w' msg hm)
  obtain ⟨R, hR⟩ : ∃ R, rchC msg = R := ⟨_, rfl⟩
  rw [hR] at HRI HRL HRO HRC
  have HT1 := Lib.hid (fun w' gd (hk : Bk w' (z + 1) 29 [.slice A 144 cc]) (hd : Bk w' gd 124 R) (hs' : Sl w' w'.heap.size 1 A 144 (bs.map (.int .u8))) c hc => told1_any w' (z + 1) gd A cc bs msg hm hk R HRI.out hd hs' hb hcc c hc)
  have HPO : Hid (∀ c, DgOk (chainI (15 - reachI msg c) (pieceI bs c)) ∨ 18 ≤ c) := fun c => by
    by_cases h : c < 18
    · exact Or.inl (chainI_ok (pieceI_ok hb hs.length h) _)
    · exact Or.inr (by omega)
  have HDO := Lib.hid (toldI_ok msg bs)
  have HTE : Hid (manyI (chainsI.map fun c => chainI (15 - reachI msg c) (pieceI bs c)) = toldI msg bs) := rfl
  obtain ⟨T, hT⟩ : ∃ T, toldI msg bs = T := ⟨_, rfl⟩
  rw [hT] at HDO HTE ⊢
  rw [hX]
  rw [hX] at HRC
  clear hX hw1 hb1 kx ks kr hz hm hs hb hcc hR hT
  go_enter Tryd.func42, Tryd.ntmps42
  go_upto_region 1 with fail
  rw [HW.out, HZ.out]
  have c1 := one_cell HS1.out
  go_wp2_with (with_reducible refine wpList_load_bk rfl 23 _ rfl z rfl (dl msg) 23 HK1.out _ Tryd.underlying23 rfl (hdg_size _ HMO.out) ?_)
  clear c1
  rw [HXE.out]
  refine (HRC.out w1).mono ?_
  rintro e w2 ⟨rfl, hbn⟩
  have HR2 := Lib.hid (HR1.out.later hbn); have HS2 := Lib.hid (HS1.out.later hbn); have HL2 := Lib.hid (HL1.out.later hbn); have HB2 := Lib.hid (below_then HB1.out hbn)
  clear hbn HR1 HS1 HL1 HRC
  go_wp2_with (with_reducible refine stop_store 124 _ _ rfl ?_)
  refine StopD.go ?_
  obtain ⟨gd, hgd⟩ : ∃ g, w2.heap.size = g := ⟨_, rfl⟩
  have hbn : Below w2.heap.size w2 (w2.alloc (.cells #[.int .i64 0, .int .i64 0, .int .i64 0, .int .i64 0, .int .i64 0, .int .i64 0, .int .i64 0, .int .i64 0, .int .i64 0, .int .i64 0, .int .i64 0, .int .i64 0, .int .i64 0, .int .i64 0, .int .i64 0, .int .i64 0, .int .i64 0, .int .i64 0] 124)) := below_new w2 _
  have kt : Bk (w2.alloc (.cells #[.int .i64 0, .int .i64 0, .int .i64 0, .int .i64 0, .int .i64 0, .int .i64 0, .int .i64 0, .int .i64 0, .int .i64 0, .int .i64 0, .int .i64 0, .int .i64 0, .int .i64 0, .int .i64 0, .int .i64 0, .int .i64 0, .int .i64 0, .int .i64 0] 124)) gd 124 ([] ++ (rchK [] 0 ++ [])) := by rw [List.nil_append, List.append_nil, ← hgd]; exact Bk.at_ w2 _ #[.int .i64 0, .int .i64 0, .int .i64 0, .int .i64 0, .int .i64 0, .int .i64 0, .int .i64 0, .int .i64 0, .int .i64 0, .int .i64 0, .int .i64 0, .int .i64 0, .int .i64 0, .int .i64 0, .int .i64 0, .int .i64 0, .int .i64 0, .int .i64 0] rfl (rchK_zero []).symm
  rw [hgd]
  refine wpList_store_part rfl 124 _ _ rfl gd 0 (.agg R.toArray) R rfl rfl rfl 124 [] (rchK [] 0) [] kt rfl (by rw [rchK_len, HRL.out]) (by rw [HRL.out]; exact a18_size) HRO.out ?_
  intro w3 hp
  have hbn : Below w2.heap.size w2 w3 := hbn.grown hp.only hbn.size (fun q hq => by injection hq with hq; omega)
  have HG3 : Hid (Bk w3 gd 124 R) := by show Bk _ _ _ _; have := hp.bk; simpa using this
  have HR3 := Lib.hid (HR2.out.later hbn); have HS3 := Lib.hid (HS2.out.later hbn); have HL3 := Lib.hid (HL2.out.later hbn); have HB3 := Lib.hid (below_then HB2.out hbn)
  clear hp kt hgd hbn HR2 HS2 HL2
  have hky := key_any 66 #[.pointer (some ⟨z + 1, 0, none⟩), .pointer (some ⟨gd, 0, none⟩)] w3 (fun c w => by kernel_rfl) (fun c => if c < 18 then chainI (15 - reachI msg c) (pieceI bs c) else zeroD) (fun c => by
      split
      · rename_i hc
        rcases HPO.out c with h | h
        · exact h
        · omega
      · exact zero_okw)
    (fun c w' hc hb => by rw [if_pos hc]; exact HT1.out w' gd (HS3.out.later hb) (HG3.out.later hb) (HL3.out.later hb) c hc)
  have hmm : chainsI.map (fun c => if c < 18 then chainI (15 - reachI msg c) (pieceI bs c) else zeroD) = chainsI.map (fun c => chainI (15 - reachI msg c) (pieceI bs c)) := List.map_congr_left fun c hc => if_pos (by simpa [chainsI] using hc)
  rw [hmm, HTE.out] at hky
  have HKY := Lib.hid hky
  clear hky hmm HT1 HPO
  go_wp2_with fail
  refine HKY.out.mono ?_
  rintro e w4 ⟨rfl, hbn⟩
  have HR4 := Lib.hid (HR3.out.later hbn); have HB4 := Lib.hid (below_then HB3.out hbn)
  clear hbn HR3 HKY
  go_wp2_with (with_reducible refine stop_store 23 _ _ rfl ?_)
  refine StopD.go ?_
  refine wpList_store_part rfl 23 _ _ rfl (z + 2) 0 (.agg (dl T).toArray) (dl T) rfl rfl rfl 23 [] (dl zeroD) [] HR4.out rfl (dg_lensw HDO.out) (hdg_size _ HDO.out) (dl_one' _) ?_
  intro wz hp
  have HTz : Hid (Bk wz (z + 2) 23 (dl T)) := by show Bk _ _ _ _; have := hp.bk; simpa using this
  have HBz := Lib.hid (below_only HB4.out hp.only HB4.out.size (by have := HZ.out; omega))
  clear hp
  go_wp2_with fail
  refine bodyPost_ret (told_ret HDO.out HTz.out _ rfl rfl) rfl ?_
  exact ⟨rfl, HBz.out⟩
end Go.Proofs.YtakfdlokgddaoaaDoor
