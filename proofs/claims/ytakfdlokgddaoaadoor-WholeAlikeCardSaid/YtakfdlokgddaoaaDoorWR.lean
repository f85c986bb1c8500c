/- Real keys that sign, and what verifies their signatures. -/
import Derived.Test.YtakfdlokgddaoaaDoorWK
namespace Go.Proofs.YtakfdlokgddaoaaDoor
set_option linter.unusedSimpArgs false
set_option linter.unusedVariables false
open Go.RowKit Go.Maps

/-! ### Nothing is no signature -/
set_option maxRecDepth 20000 in
set_option maxHeartbeats 2000000 in
theorem split_none_any (w : World) (A : Option Addr) (c : Nat) : Calls Tryd.prog 41 #[.slice A 0 c] w (RetSp0 w) := by
  obtain ⟨z, hz⟩ : ∃ z, w.heap.size = z := ⟨_, rfl⟩
  obtain ⟨w1, hw1⟩ : ∃ w1, w.alloc (.cells #[.int .i64 0, .slice none 0 0, .slice none 0 0] 86) = w1 := ⟨_, rfl⟩
  have hb1 : Below w.heap.size w w1 := hw1 ▸ below_new w _
  have kr : Bk w1 z 86 (prC 0 (.slice none 0 0) (.slice none 0 0)) := hw1 ▸ Bk.at_ w _ #[.int .i64 0, .slice none 0 0, .slice none 0 0] hz rfl
  have HW := Lib.hid hw1; have HB1 := Lib.hid hb1; have HZ := Lib.hid hz; have HR1 := Lib.hid kr
  have HNR1 := Lib.hid (newReader_any w1 A 0 c [] (fun b hb => by cases hb) ⟨by simp, by omega, fun h => absurd h (by omega)⟩ (by omega))
  clear hw1 hb1 kr hz
  go_enter Tryd.func41, Tryd.ntmps41
  go_upto_region 1 with fail
  rw [HW.out, HZ.out]
  go_wp2_with fail
  refine HNR1.out.mono ?_
  rintro e w2 ⟨⟨g, rfl, hg, hrd⟩, hbn⟩
  have HR2 := Lib.hid (HR1.out.later hbn); have HB2 := Lib.hid (below_then HB1.out hbn); have HRD := Lib.hid hrd
  have HGZ : Hid (z < g) := by have := HR1.out.lt; show z < g; omega
  clear hrd hbn hg HNR1 HR1
  go_wp2_with fail
  have hnm := rdNum_any w2 g ⟨[], 0⟩ HRD.out 255
  rw [num_nil4] at hnm
  refine hnm.mono ?_
  clear hnm
  rintro e w3 ⟨rfl, hrd, hg3⟩
  have HRD3 := Lib.hid hrd
  have HR3 := Lib.hid (HR2.out.grown hg3 (by intro e; injection e with e; have := HGZ.out; omega)); have HB3 := Lib.hid (below_only HB2.out hg3 HB2.out.size (by have := HGZ.out; have := HZ.out; omega))
  clear hrd hg3 HR2 HB2 HRD
  go_wp2_with fail
  refine (rdErr_any _ g _ HRD3.out).mono ?_
  rintro e w4 ⟨rfl, rfl⟩
  have HBD := Lib.hid pr_build0
  go_wp2_with (first
    | ((with_reducible refine wpList_build rfl 86 _ rfl #[] ?_ _ (HBD.out _) ?_); focus (simp [Act.eval, Act.put]; done))
    | (with_reducible refine stop_store 86 _ _ rfl ?_))
  refine StopD.go ?_
  refine wpList_store_part rfl 86 _ _ rfl z 0 (.agg (prC 0 (.slice none 0 0) (.slice none 0 0)).toArray) (prC 0 (.slice none 0 0) (.slice none 0 0)) rfl rfl rfl 86 [] (prC 0 (.slice none 0 0) (.slice none 0 0)) [] (by simpa using HR3.out) rfl rfl (pr_size _ _ _) (pr_one _ _ _ _ _ _ _) ?_
  intro wz hp
  have HTz : Hid (Bk wz z 86 (prC 0 (.slice none 0 0) (.slice none 0 0))) := by show Bk _ _ _ _; have := hp.bk; simpa using this
  have HBz := Lib.hid (below_only HB3.out hp.only HB3.out.size (Nat.le_of_eq HZ.out))
  clear hp
  go_wp2_with fail
  refine bodyPost_ret (split_ret HTz.out _ rfl rfl) rfl ?_
  exact ⟨rfl, HBz.out⟩
set_option maxRecDepth 20000 in
set_option maxHeartbeats 4000000 in
theorem kver_none (w : World) (pub msg : List Int) (A : Option Addr) (c : Nat) :
    Calls Tryd.prog 14 #[.agg (dl pub).toArray, .agg (dl msg).toArray, .slice A 0 c] w fun e w' => e = .returned (.bool false) ∧ Below w.heap.size w w' := by
  obtain ⟨X, hX⟩ : ∃ X, (dl pub).toArray = X := ⟨_, rfl⟩
  obtain ⟨Y, hY⟩ : ∃ X, (dl msg).toArray = X := ⟨_, rfl⟩
  obtain ⟨w1, hw1⟩ : ∃ w1, (w.alloc (.cells X 23)).alloc (.cells Y 23) = w1 := ⟨_, rfl⟩
  have hb1 : Below w.heap.size w w1 := hw1 ▸ (below_new w _).alloc (by simp) _
  have HW := Lib.hid hw1; have HB1 := Lib.hid hb1
  rw [hX, hY]
  clear hX hY hw1 hb1
  go_enter Tryd.func14, Tryd.ntmps14
  go_upto_region 1 with fail
  rw [HW.out]
  go_wp2_with fail
  refine (split_none_any w1 A c).mono ?_
  rintro e w2 ⟨rfl, hbn⟩
  obtain ⟨X2, hX2⟩ : ∃ X, (prC 0 (.slice none 0 0) (.slice none 0 0)).toArray = X := ⟨_, rfl⟩
  have HX2 := Lib.hid hX2
  have HB2 := Lib.hid (below_then HB1.out hbn)
  rw [hX2]
  clear hbn hX2
  go_wp2_with (with_reducible refine stop_store 86 _ _ rfl ?_)
  rw [← HX2.out]
  refine StopD.go ?_
  obtain ⟨g3, hg3⟩ : ∃ g, w2.heap.size = g := ⟨_, rfl⟩
  have hbn : Below w2.heap.size w2 (w2.alloc (.cells #[.int .i64 0, .slice none 0 0, .slice none 0 0] 86)) := below_new w2 _
  have kt : Bk (w2.alloc (.cells #[.int .i64 0, .slice none 0 0, .slice none 0 0] 86)) g3 86 ([] ++ (prC 0 (.slice none 0 0) (.slice none 0 0) ++ [])) := by rw [← hg3]; exact Bk.new' w2 _ #[.int .i64 0, .slice none 0 0, .slice none 0 0] rfl
  rw [hg3]
  refine wpList_store_part rfl 86 _ _ rfl g3 0 (.agg (prC 0 (.slice none 0 0) (.slice none 0 0)).toArray) (prC 0 (.slice none 0 0) (.slice none 0 0)) rfl rfl rfl 86 [] (prC 0 (.slice none 0 0) (.slice none 0 0)) [] kt rfl rfl (pr_size _ _ _) (pr_one _ _ _ _ _ _ _) ?_
  intro w3 hp
  have hbn : Below w2.heap.size w2 w3 := hbn.grown hp.only hbn.size (fun q hq => by injection hq with hq; omega)
  have HP3 : Hid (Bk w3 g3 86 (prC 0 (.slice none 0 0) (.slice none 0 0))) := by show Bk _ _ _ _; have := hp.bk; simpa using this
  clear hp kt
  have HB3 := Lib.hid (below_then HB2.out hbn)
  clear hbn hg3
  go_wp2_with fail
  go_ret
  exact ⟨rfl, HB3.out⟩
/-- What may stand as a signature of a message. -/
inductive SigOk (m : List Int) (s : List Int) : Prop
  | nil (h : s = []) : SigOk m s
  | sg (sec : List Int) (h : Nat) (L : List (List Int)) (hL : LedOk (2 ^ h) L) (hh : h ≤ 8) (m' : List Int) (hm : m' ∈ L) (e : s = sgI sec h L m') : SigOk m s
theorem SigOk.by_ {m s : List Int} (h : SigOk m s) : ByOk s := by
  rcases h with rfl | ⟨sec, h, L, hL, hh, m', hm, rfl⟩
  · intro b hb; cases hb
  · exact (sg_parts (sec := sec) hL hh hm).2.2.2.2.2.2
theorem kver_all (w : World) (pub msg : List Int) (hpu : DgOk pub) (hm : DgOk msg) (A : Option Addr) (n c : Nat) (s : List Int) (hs : Sl w w.heap.size 1 A n (s.map (.int .u8))) (hc : n ≤ c) (ho : SigOk msg s) :
    Calls Tryd.prog 14 #[.agg (dl pub).toArray, .agg (dl msg).toArray, .slice A n c] w fun e w' => e = .returned (.bool (verI pub msg s)) ∧ Below w.heap.size w w' := by
  rcases ho with rfl | ⟨sec, h, L, hL, hh, m', hm', rfl⟩
  · have hn : n = 0 := by have := hs.length; simpa using this.symm
    subst hn
    rw [ver_nil]
    exact kver_none w pub msg A c
  · exact kver_sg w hL hh hm' pub msg hpu hm A n c hs hc
set_option maxRecDepth 20000 in
set_option maxHeartbeats 4000000 in
theorem rver_any (w : World) (pub msg : List Int) (hpu : DgOk pub) (hm : DgOk msg) (A : Option Addr) (n c : Nat) (s : List Int) (hs : Sl w w.heap.size 1 A n (s.map (.int .u8))) (hc : n ≤ c) (ho : SigOk msg s) :
    Calls Tryd.prog 20 #[.agg #[], .agg (dl pub).toArray, .agg (dl msg).toArray, .slice A n c] w fun e w' => e = .returned (.bool (verI pub msg s)) ∧ Below w.heap.size w w' := by
  obtain ⟨X, hX⟩ : ∃ X, (dl pub).toArray = X := ⟨_, rfl⟩
  obtain ⟨Y, hY⟩ : ∃ X, (dl msg).toArray = X := ⟨_, rfl⟩
  obtain ⟨z, hz⟩ : ∃ z, w.heap.size = z := ⟨_, rfl⟩
  obtain ⟨w1, hw1⟩ : ∃ w1, ((w.alloc (.cells #[] 59)).alloc (.cells X 23)).alloc (.cells Y 23) = w1 := ⟨_, rfl⟩
  have hb1 : Below w.heap.size w w1 := hw1 ▸ ((below_new w _).alloc (by simp) _).alloc (by simp; omega) _
  have kx : Bk w1 (z + 1) 23 (dl pub) := hw1 ▸ (Bk.at_ _ _ X (by simp [hz]) (by rw [← hX])).alloc _
  have ky : Bk w1 (z + 2) 23 (dl msg) := hw1 ▸ Bk.at_ _ _ Y (by simp [hz]) (by rw [← hY])
  have HW := Lib.hid hw1; have HB1 := Lib.hid hb1; have HZ := Lib.hid hz; have HX1 := Lib.hid kx; have HY1 := Lib.hid ky; have HPU := Lib.hid hpu; have HMO := Lib.hid hm; have HXE := Lib.hid hX; have HYE := Lib.hid hY
  have HV := Lib.hid (kver_all w1 pub msg hpu hm A n c s (hs.later hb1) hc ho)
  obtain ⟨vb, hvb⟩ : ∃ x, verI pub msg s = x := ⟨_, rfl⟩
  rw [hvb] at HV ⊢
  rw [hX, hY]
  rw [hX, hY] at HV
  clear hX hY hw1 hb1 kx ky hz hpu hm hs hc ho hvb
  go_enter Tryd.func20, Tryd.ntmps20
  go_upto_region 1 with fail
  rw [HW.out, HZ.out]
  go_wp2_with (first
    | (with_reducible refine wpList_load_bk rfl 23 _ rfl (z + 1) rfl (dl pub) 23 HX1.out _ Tryd.underlying23 rfl (hdg_size _ HPU.out) ?_)
    | (with_reducible refine wpList_load_bk rfl 23 _ rfl (z + 1 + 1) rfl (dl msg) 23 HY1.out _ Tryd.underlying23 rfl (hdg_size _ HMO.out) ?_))
  rw [HXE.out, HYE.out]
  refine HV.out.mono ?_
  rintro e w2 ⟨rfl, hbn⟩
  have HB2 := Lib.hid (below_then HB1.out hbn)
  clear hbn
  go_wp2_with fail
  go_ret
  exact ⟨rfl, HB2.out⟩
end Go.Proofs.YtakfdlokgddaoaaDoor
