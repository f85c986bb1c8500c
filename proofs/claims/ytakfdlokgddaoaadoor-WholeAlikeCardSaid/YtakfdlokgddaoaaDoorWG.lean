/- A signature's key; whether it is one. -/
import Derived.Test.YtakfdlokgddaoaaDoorWF
namespace Go.Proofs.YtakfdlokgddaoaaDoor
set_option linter.unusedSimpArgs false
set_option linter.unusedVariables false
open Go.RowKit Go.Maps

theorem pr_c0 {w : World} {g : Nat} {I : Int} {a b : Value} (h : Bk w g 86 (prC I a b)) : w.cell? ⟨g, 0, none⟩ = some (.int .i64 I) := by rw [h.cell]; rfl
theorem pr_c1 {w : World} {g : Nat} {I : Int} {a b : Value} (h : Bk w g 86 (prC I a b)) : w.cell? ⟨g, 1, none⟩ = some a := by rw [h.cell]; rfl
theorem pr_c2 {w : World} {g : Nat} {I : Int} {a b : Value} (h : Bk w g 86 (prC I a b)) : w.cell? ⟨g, 2, none⟩ = some b := by rw [h.cell]; rfl
theorem Check_anyw (w : World) (root : List Int) (i : Int) (leaf : List Int) (hr : DgOk root) (hd : DgOk leaf) (A : Option Addr) (n c : Nat) (ls : List (List Int)) (ho : DsOk ls) (hs : Sl w w.heap.size 8 A n (cellsD ls)) :
    Calls Tryd.prog 43 #[.agg (dl root).toArray, .int .i64 i, .agg (dl leaf).toArray, .slice A n c] w fun e w' => e = .returned (.bool (checkI root i leaf ls)) ∧ Below w.heap.size w w' := Check_any w root i leaf hr hd A n c ls ho hs
set_option maxRecDepth 20000 in
set_option maxHeartbeats 4000000 in
theorem kidx_any (w : World) (A : Option Addr) (n c : Nat) (bs : List Int) (hs : Sl w w.heap.size 1 A n (bs.map (.int .u8))) (hb : ByOk bs) (hcc : n ≤ c) (I : Nat) (O : List Int) (P : List (List Int)) (hI : I < 2 ^ P.length) (hP : P.length ≤ 8) (hO : O.length = 144) (hPo : DsOk P) (hbs : bs = numB I ++ (O ++ P.flatten)) :
    Calls Tryd.prog 13 #[.slice A n c] w fun e w' => e = .returned (.tuple #[.int .i64 I, .bool true]) ∧ Below w.heap.size w w' := by
  have HSP := Lib.hid (split_any w A n c bs hs hb hcc I O P hI hP hO hPo hbs)
  clear hs hb hcc hI hP hO hPo hbs
  go_enter Tryd.func13, Tryd.ntmps13
  go_wp2_with fail
  refine HSP.out.mono ?_
  rintro e w1 ⟨A1, c1, B1, d1, rfl, hs1, hc1, hp1, hbn⟩
  obtain ⟨X, hX⟩ : ∃ X, (prC I (.slice A1 144 c1) (.slice B1 P.length d1)).toArray = X := ⟨_, rfl⟩
  have HX := Lib.hid hX
  have HB1 := Lib.hid hbn
  rw [hX]
  clear hs1 hc1 hp1 hbn hX HSP
  go_wp2_with (with_reducible refine stop_store 86 _ _ rfl ?_)
  rw [← HX.out]
  refine StopD.go ?_
  obtain ⟨g2, hg2⟩ : ∃ g, w1.heap.size = g := ⟨_, rfl⟩
  have hbn : Below w1.heap.size w1 (w1.alloc (.cells #[.int .i64 0, .slice none 0 0, .slice none 0 0] 86)) := below_new w1 _
  have kt : Bk (w1.alloc (.cells #[.int .i64 0, .slice none 0 0, .slice none 0 0] 86)) g2 86 ([] ++ (prC 0 (.slice none 0 0) (.slice none 0 0) ++ [])) := by rw [← hg2]; exact Bk.new' w1 _ #[.int .i64 0, .slice none 0 0, .slice none 0 0] rfl
  rw [hg2]
  refine wpList_store_part rfl 86 _ _ rfl g2 0 (.agg (prC I (.slice A1 144 c1) (.slice B1 P.length d1)).toArray) (prC I (.slice A1 144 c1) (.slice B1 P.length d1)) rfl rfl rfl 86 [] (prC 0 (.slice none 0 0) (.slice none 0 0)) [] kt rfl rfl (pr_size _ _ _) (pr_one _ _ _ _ _ _ _) ?_
  intro w2 hp
  have hbn : Below w1.heap.size w1 w2 := hbn.grown hp.only hbn.size (fun q hq => by injection hq with hq; omega)
  have HP2 : Hid (Bk w2 g2 86 (prC I (.slice A1 144 c1) (.slice B1 P.length d1))) := by show Bk _ _ _ _; have := hp.bk; simpa using this
  clear hp kt
  have HB2 := Lib.hid (below_then HB1.out hbn)
  have c0 := pr_c0 HP2.out
  clear hbn hg2
  go_wp2_with fail
  go_ret2
  exact ⟨rfl, HB2.out⟩
set_option maxRecDepth 20000 in
set_option maxHeartbeats 4000000 in
theorem kver_any (w : World) (pub msg : List Int) (hpu : DgOk pub) (hm : DgOk msg) (A : Option Addr) (n c : Nat) (bs : List Int) (hs : Sl w w.heap.size 1 A n (bs.map (.int .u8))) (hb : ByOk bs) (hcc : n ≤ c) (I : Nat) (O : List Int) (P : List (List Int)) (hI : I < 2 ^ P.length) (hP : P.length ≤ 8) (hO : O.length = 144) (hOo : ByOk O) (hPo : DsOk P) (hbs : bs = numB I ++ (O ++ P.flatten)) :
    Calls Tryd.prog 14 #[.agg (dl pub).toArray, .agg (dl msg).toArray, .slice A n c] w fun e w' => e = .returned (.bool (checkI pub I (toldI msg O) P)) ∧ Below w.heap.size w w' := by
  obtain ⟨X, hX⟩ : ∃ X, (dl pub).toArray = X := ⟨_, rfl⟩
  obtain ⟨Y, hY⟩ : ∃ X, (dl msg).toArray = X := ⟨_, rfl⟩
  obtain ⟨z, hz⟩ : ∃ z, w.heap.size = z := ⟨_, rfl⟩
  obtain ⟨w1, hw1⟩ : ∃ w1, (w.alloc (.cells X 23)).alloc (.cells Y 23) = w1 := ⟨_, rfl⟩
  have hb1 : Below w.heap.size w w1 := hw1 ▸ (below_new w _).alloc (by simp) _
  have kx : Bk w1 z 23 (dl pub) := hw1 ▸ (Bk.at_ w _ X hz (by rw [← hX])).alloc _
  have ky : Bk w1 (z + 1) 23 (dl msg) := hw1 ▸ Bk.at_ _ _ Y (by simp [hz]) (by rw [← hY])
  have HSP := Lib.hid (split_any w1 A n c bs (hs.later hb1) hb hcc I O P hI hP hO hPo hbs)
  have HW := Lib.hid hw1; have HB1 := Lib.hid hb1; have HZ := Lib.hid hz; have HX1 := Lib.hid kx; have HY1 := Lib.hid ky; have HPU := Lib.hid hpu; have HMO := Lib.hid hm; have HXE := Lib.hid hX; have HYE := Lib.hid hY; have HPO := Lib.hid hPo; have HOO := Lib.hid hOo
  have HTD := Lib.hid (fun w' (A : Option Addr) (cc : Nat) (hs : Sl w' w'.heap.size 1 A 144 (O.map (.int .u8))) (hcc : 144 ≤ cc) => told_anyW w' msg hm A cc O hs hOo hcc)
  have HTO := Lib.hid (toldI_ok msg O)
  obtain ⟨D, hD⟩ : ∃ D, toldI msg O = D := ⟨_, rfl⟩
  rw [hD] at HTD HTO ⊢
  have HCK := Lib.hid (fun w' (A : Option Addr) (c : Nat) (hs : Sl w' w'.heap.size 8 A P.length (cellsD P)) => Check_anyw w' pub I D hpu HTO.out A P.length c P hPo hs)
  obtain ⟨R, hR⟩ : ∃ R, checkI pub I D P = R := ⟨_, rfl⟩
  rw [hR] at HCK ⊢
  rw [hX, hY]
  clear hX hY hw1 hb1 kx ky hz hpu hm hs hb hcc hI hP hO hOo hPo hbs hD hR
  go_enter Tryd.func14, Tryd.ntmps14
  go_upto_region 1 with fail
  rw [HW.out, HZ.out]
  go_wp2_with fail
  refine HSP.out.mono ?_
  rintro e w2 ⟨A1, c1, B1, d1, rfl, hs1, hc1, hp1, hbn⟩
  obtain ⟨X2, hX2⟩ : ∃ X, (prC I (.slice A1 144 c1) (.slice B1 P.length d1)).toArray = X := ⟨_, rfl⟩
  have HX2 := Lib.hid hX2
  have HB2 := Lib.hid (below_then HB1.out hbn); have HXa := Lib.hid (HX1.out.later hbn); have HYa := Lib.hid (HY1.out.later hbn); have HS2 := Lib.hid hs1; have HC2 := Lib.hid hc1; have HP2 := Lib.hid hp1
  rw [hX2]
  clear hs1 hc1 hp1 hbn hX2 HSP
  go_wp2_with (with_reducible refine stop_store 86 _ _ rfl ?_)
  rw [← HX2.out]
  refine StopD.go ?_
  obtain ⟨g3, hg3⟩ : ∃ g, w2.heap.size = g := ⟨_, rfl⟩
  have hbn : Below w2.heap.size w2 (w2.alloc (.cells #[.int .i64 0, .slice none 0 0, .slice none 0 0] 86)) := below_new w2 _
  have kt : Bk (w2.alloc (.cells #[.int .i64 0, .slice none 0 0, .slice none 0 0] 86)) g3 86 ([] ++ (prC 0 (.slice none 0 0) (.slice none 0 0) ++ [])) := by rw [← hg3]; exact Bk.new' w2 _ #[.int .i64 0, .slice none 0 0, .slice none 0 0] rfl
  rw [hg3]
  refine wpList_store_part rfl 86 _ _ rfl g3 0 (.agg (prC I (.slice A1 144 c1) (.slice B1 P.length d1)).toArray) (prC I (.slice A1 144 c1) (.slice B1 P.length d1)) rfl rfl rfl 86 [] (prC 0 (.slice none 0 0) (.slice none 0 0)) [] kt rfl rfl (pr_size _ _ _) (pr_one _ _ _ _ _ _ _) ?_
  intro w3 hp
  have hbn : Below w2.heap.size w2 w3 := hbn.grown hp.only hbn.size (fun q hq => by injection hq with hq; omega)
  have HP3 : Hid (Bk w3 g3 86 (prC I (.slice A1 144 c1) (.slice B1 P.length d1))) := by show Bk _ _ _ _; have := hp.bk; simpa using this
  clear hp kt
  have HB3 := Lib.hid (below_then HB2.out hbn); have HX3 := Lib.hid (HXa.out.later hbn); have HY3 := Lib.hid (HYa.out.later hbn); have HS3 := Lib.hid (HS2.out.later hbn); have HQ3 := Lib.hid (HP2.out.later hbn)
  have c1' := pr_c1 HP3.out
  clear hbn hg3 HB2 HXa HYa HS2 HP2
  go_wp2_with (with_reducible refine wpList_load_bk rfl 23 _ rfl (z + 1) rfl (dl msg) 23 HY3.out _ Tryd.underlying23 rfl (hdg_size _ HMO.out) ?_)
  clear c1'
  refine (HTD.out w3 A1 c1 HS3.out HC2.out).mono ?_
  rintro e w4 ⟨rfl, hbn⟩
  have HB4 := Lib.hid (below_then HB3.out hbn); have HX4 := Lib.hid (HX3.out.later hbn); have HQ4 := Lib.hid (HQ3.out.later hbn); have HP4 := Lib.hid (HP3.out.later hbn)
  clear hbn HB3 HX3 HY3 HS3 HQ3 HP3
  go_wp2_with (with_reducible refine stop_store 23 _ _ rfl ?_)
  refine StopD.go ?_
  obtain ⟨g5, hg5⟩ : ∃ g, w4.heap.size = g := ⟨_, rfl⟩
  have hbn : Below w4.heap.size w4 (w4.alloc (.cells #[.int .u8 0, .int .u8 0, .int .u8 0, .int .u8 0, .int .u8 0, .int .u8 0, .int .u8 0, .int .u8 0] 23)) := below_new w4 _
  have kt : Bk (w4.alloc (.cells #[.int .u8 0, .int .u8 0, .int .u8 0, .int .u8 0, .int .u8 0, .int .u8 0, .int .u8 0, .int .u8 0] 23)) g5 23 ([] ++ (dl zeroD ++ [])) := by rw [← hg5]; exact Bk.new' w4 _ #[.int .u8 0, .int .u8 0, .int .u8 0, .int .u8 0, .int .u8 0, .int .u8 0, .int .u8 0, .int .u8 0] rfl
  rw [hg5]
  refine wpList_store_part rfl 23 _ _ rfl g5 0 (.agg (dl D).toArray) (dl D) rfl rfl rfl 23 [] (dl zeroD) [] kt rfl (by rw [dl_len, dl_len, HTO.out.len]; rfl) (hdg_size _ HTO.out) (dl_one' _) ?_
  intro w5 hp
  have hbn : Below w4.heap.size w4 w5 := hbn.grown hp.only hbn.size (fun q hq => by injection hq with hq; omega)
  have HD5 : Hid (Bk w5 g5 23 (dl D)) := by show Bk _ _ _ _; have := hp.bk; simpa using this
  clear hp kt
  have HB5 := Lib.hid (below_then HB4.out hbn); have HX5 := Lib.hid (HX4.out.later hbn); have HQ5 := Lib.hid (HQ4.out.later hbn); have HP5 := Lib.hid (HP4.out.later hbn)
  have c0 := pr_c0 HP5.out
  have c2 := pr_c2 HP5.out
  clear hbn hg5 HB4 HX4 HQ4 HP4
  go_wp2_with (first
    | ((with_reducible refine wpList_load_bkG2 ?_ 23 _ rfl z rfl (dl pub) 23 HX5.out _ Tryd.underlying23 rfl (hdg_size _ HPU.out) ?_); rfl)
    | ((with_reducible refine wpList_load_bkG2 ?_ 23 _ rfl g5 rfl (dl D) 23 HD5.out _ Tryd.underlying23 rfl (hdg_size _ HTO.out) ?_); rfl))
  refine (HCK.out w5 B1 d1 HQ5.out).mono ?_
  rintro e w6 ⟨rfl, hbn⟩
  have HB6 := Lib.hid (below_then HB5.out hbn)
  clear hbn c0 c2
  go_wp2_with fail
  go_ret
  exact ⟨rfl, HB6.out⟩
set_option maxRecDepth 20000 in
set_option maxHeartbeats 4000000 in
theorem kver_nil (w : World) (pub msg : List Int) :
    Calls Tryd.prog 14 #[.agg (dl pub).toArray, .agg (dl msg).toArray, .slice none 0 0] w fun e w' => e = .returned (.bool false) ∧ Below w.heap.size w w' := by
  obtain ⟨X, hX⟩ : ∃ X, (dl pub).toArray = X := ⟨_, rfl⟩
  obtain ⟨Y, hY⟩ : ∃ X, (dl msg).toArray = X := ⟨_, rfl⟩
  obtain ⟨w1, hw1⟩ : ∃ w1, (w.alloc (.cells X 23)).alloc (.cells Y 23) = w1 := ⟨_, rfl⟩
  have hb1 : Below w.heap.size w w1 := hw1 ▸ (below_new w _).alloc (by simp) _
  have HW := Lib.hid hw1; have HB1 := Lib.hid hb1
  rw [hX, hY]
  clear hX hY hw1 hb1
  go_enter Tryd.func14, Tryd.ntmps14
  go_upto_region 1 with fail
  rw [HW.out]
  go_wp2_with fail
  refine (split_nil_any w1).mono ?_
  rintro e w2 ⟨rfl, hbn⟩
  obtain ⟨X2, hX2⟩ : ∃ X, (prC 0 (.slice none 0 0) (.slice none 0 0)).toArray = X := ⟨_, rfl⟩
  have HX2 := Lib.hid hX2
  have HB2 := Lib.hid (below_then HB1.out hbn)
  rw [hX2]
  clear hbn hX2
  go_wp2_with (with_reducible refine stop_store 86 _ _ rfl ?_)
  rw [← HX2.out]
  refine StopD.go ?_
  obtain ⟨g3, hg3⟩ : ∃ g, w2.heap.size = g := ⟨_, rfl⟩
  have hbn : Below w2.heap.size w2 (w2.alloc (.cells #[.int .i64 0, .slice none 0 0, .slice none 0 0] 86)) := below_new w2 _
  have kt : Bk (w2.alloc (.cells #[.int .i64 0, .slice none 0 0, .slice none 0 0] 86)) g3 86 ([] ++ (prC 0 (.slice none 0 0) (.slice none 0 0) ++ [])) := by rw [← hg3]; exact Bk.new' w2 _ #[.int .i64 0, .slice none 0 0, .slice none 0 0] rfl
  rw [hg3]
  refine wpList_store_part rfl 86 _ _ rfl g3 0 (.agg (prC 0 (.slice none 0 0) (.slice none 0 0)).toArray) (prC 0 (.slice none 0 0) (.slice none 0 0)) rfl rfl rfl 86 [] (prC 0 (.slice none 0 0) (.slice none 0 0)) [] kt rfl rfl (pr_size _ _ _) (pr_one _ _ _ _ _ _ _) ?_
  intro w3 hp
  have hbn : Below w2.heap.size w2 w3 := hbn.grown hp.only hbn.size (fun q hq => by injection hq with hq; omega)
  have HP3 : Hid (Bk w3 g3 86 (prC 0 (.slice none 0 0) (.slice none 0 0))) := by show Bk _ _ _ _; have := hp.bk; simpa using this
  clear hp kt
  have HB3 := Lib.hid (below_then HB2.out hbn)
  clear hbn hg3
  go_wp2_with fail
  go_ret
  exact ⟨rfl, HB3.out⟩
end Go.Proofs.YtakfdlokgddaoaaDoor
