/- A signature's parts; which key it is by; whether it is one. -/
import Derived.Test.YtakfdlokgddaoaaDoorWE
namespace Go.Proofs.YtakfdlokgddaoaaDoor
set_option linter.unusedSimpArgs false
set_option linter.unusedVariables false
open Go.RowKit Go.Maps

def prC (I : Int) (a b : Value) : List Value := [.int .i64 I, a, b]
theorem pr_size (I : Int) (a b : Value) : (Tryd.prog.info? 86).map (·.size) = some (prC I a b).length := by kernel_rfl
theorem pr_one (I : Int) (A B : Option Addr) (n c m d : Nat) : ∀ v ∈ prC I (.slice A n c) (.slice B m d), v.oneCell' = true := by intro v hv; simp [prC] at hv; rcases hv with rfl | rfl | rfl <;> rfl
theorem pr_build (I : Int) (A B : Option Addr) (n c m d : Nat) (w : World) : (Instr.build 86 #[(0, .int .i64 I), (1, .slice A n c), (2, .slice B m d)]).run Tryd.prog w = .ok (.agg (prC I (.slice A n c) (.slice B m d)).toArray) w := by kernel_rfl
theorem pr_build0 (w : World) : (Instr.build 86 #[]).run Tryd.prog w = .ok (.agg (prC 0 (.slice none 0 0) (.slice none 0 0)).toArray) w := by kernel_rfl
theorem split_ret {w : World} {g : Nat} {I : Int} {a b : Value} (h : Bk w g 86 (prC I a b)) (tmps : Array Value) (h2 : tmps.getD 2 undef = .pointer (some ⟨g, 0, none⟩)) {e : Value} (h3 : tmps.getD 3 undef = e) :
    (results Tryd.f41 tmps).run Tryd.prog w = .ok (.tuple #[.agg (prC I a b).toArray, e]) w := by
  have r1 : w.rangeAt g 0 (prC I a b) := Bk.range (pre := []) (post := []) (by simpa using h) rfl
  have l1 := run_loadVar_mid (P := Tryd.prog) w g 0 86 (prC I a b) _ r1 Tryd.underlying86 rfl (pr_size _ _ _)
  rw [Array.getD_eq_getD_getElem?] at h2 h3
  simp [results, Tryd.results41, h2, h3, asAddr, l1]
def RetSp (w : World) (I : Nat) (O : List Int) (P : List (List Int)) (e : Ending) (w' : World) : Prop :=
  ∃ A c B d, e = .returned (.tuple #[.agg (prC I (.slice A 144 c) (.slice B P.length d)).toArray, .bool true]) ∧ Sl w' w'.heap.size 1 A 144 (O.map (.int .u8)) ∧ 144 ≤ c ∧ Sl w' w'.heap.size 8 B P.length (cellsD P) ∧ Below w.heap.size w w'
theorem num_sig {I : Nat} (hI : I ≤ 255) (R : List Int) : numR ⟨numB I ++ R, 0⟩ 255 = (⟨R, 0⟩, (I : Int)) := by
  unfold numR
  rw [if_pos rfl, look_num I (by omega) _, if_pos rfl, if_pos (by show (I : Int) ≤ 255; omega), List.drop_left]
theorem num_nil : numR ⟨[], 0⟩ 255 = (⟨[], (lookB []).2.2⟩, 0) := num_look (s := ⟨[], 0⟩) rfl (by decide) 255
theorem look_nil : (lookB []).2.2 ≠ 0 := by decide
theorem flat_at {O : List Int} {P : List (List Int)} (hO : O.length = 144) (hP : DsOk P) {k : Nat} {d : List Int} (hd : P[k]? = some d) (N : List Int) : ((N ++ (O ++ P.flatten)).drop (N.length + (144 + k * 8))).take 8 = d := by
  rw [← List.drop_drop, List.drop_left, ← hO, ← List.drop_drop, List.drop_left]
  exact flat8 P hP k d hd
theorem sl_cutr {w : World} {b o n : Nat} {B : Nat} {xs : List Int} {k m : Nat} (h : Sl w B 1 (some ⟨b, o, none⟩) n (xs.map (.int .u8))) (hk : k + m ≤ n) : w.rangeAt b (o + k) (((xs.drop k).take m).map (.int .u8)) := by
  intro j v hv
  obtain ⟨b', o', e, _, hc⟩ : ∃ b' o', (some (⟨b, o, none⟩ : Addr)) = some ⟨b', o', none⟩ ∧ True ∧ ∀ (j : Nat) (u : Value), (xs.map (Value.int .u8))[j]? = some u → w.cell? ⟨b', o' + j, none⟩ = some u := by
    rcases Nat.eq_zero_or_pos n with h0 | h0
    · have : m = 0 := by omega
      subst this; simp at hv
    · obtain ⟨b', o', e, _, hc⟩ := h.spot h0 (by omega)
      exact ⟨b', o', e, trivial, hc⟩
  injection e with e; injection e with e1 e2
  subst e1 e2
  have := hc (k + j) v (by
    rw [List.getElem?_map] at hv ⊢
    rw [List.getElem?_take] at hv
    split at hv
    · rwa [List.getElem?_drop] at hv
    · simp at hv)
  rwa [← Nat.add_assoc] at this
theorem sl_of_rng {w : World} {g o n : Nat} {xs : List Value} (hl : xs.length = n) (hn : n ≤ 9223372036854775807) (hg : g < w.heap.size) (h : w.rangeAt g o xs) : Sl w w.heap.size 1 (some ⟨g, o, none⟩) n xs :=
  ⟨by rw [hl]; omega, by omega, fun _ => ⟨_, rfl, hg, fun j u hu => by rw [add_plain]; exact h j u hu⟩⟩
theorem stop_bin {P : Program} {ops : Array Oper} {rest : List Oper} {o : Oper} {a : Act} {w : World} {Q : Exit → Act → World → Prop} (b : BinOp) (t t2 : TypeId) (x y : Operand) (_ho : o.op = .binOp b t x y t2) (h : StopD (wpList P ops Q (o :: rest) a w)) : wpList P ops Q (o :: rest) a w := h
theorem mod8 {h m : Nat} (hm : h * 8 = m) : (m : Int).tmod 8 = 0 := by rw [Int.tmod_eq_emod_of_nonneg (by omega)]; omega
theorem div8 {h m : Nat} (hm : h * 8 = m) : (m : Int).tdiv 8 = h := by rw [Int.tdiv_eq_ediv_of_nonneg (by omega)]; omega
theorem split_nums {n k q h m p I c : Nat} (hnk : n = k + q) (hq : 144 + h * 8 = q) (hm : h * 8 = m) (hP : h ≤ 8) (hI : I < p) (hN1 : 1 ≤ k) (hk10 : k ≤ 10) (hcc : n ≤ c) :
    (decide ((8 : Int) < h) = false) ∧ (decide ((p : Int) ≤ I) = false) ∧ ((0 : Int) ≤ h) ∧ wrap64 ((n : Int) - q) = k ∧ ((k : Int) ≤ n) ∧ ((0 : Int) ≤ k) ∧ ((n : Int) ≤ c) ∧ n - k = q ∧ (¬ c = k) ∧ (decide ((q : Int) < 144) = false) ∧ wrap64 ((q : Int) - 144) = m ∧ wrap64 (h : Int) = h ∧ ((n : Int) - q = k) ∧ ((q : Int) - 144 = m) ∧ n - q = k ∧ wrap64 (m : Int) = m :=
  ⟨by simp; omega, by simp; omega, by omega, by rw [IntWalk.wrap64_in _ (by omega)]; omega, by omega, by omega, by omega, by omega, by omega, by simp; omega, by rw [IntWalk.wrap64_in _ (by omega)]; omega, IntWalk.wrap64_in _ (by omega), by omega, by omega, by omega, IntWalk.wrap64_in _ (by omega)⟩
set_option maxRecDepth 20000 in
set_option maxHeartbeats 8000000 in
theorem split_any (w : World) (A : Option Addr) (n c : Nat) (bs : List Int) (hs : Sl w w.heap.size 1 A n (bs.map (.int .u8))) (hb : ByOk bs) (hcc : n ≤ c) (I : Nat) (O : List Int) (P : List (List Int)) (hI : I < 2 ^ P.length) (hP : P.length ≤ 8) (hO : O.length = 144) (hPo : DsOk P) (hbs : bs = numB I ++ (O ++ P.flatten)) :
    Calls Tryd.prog 41 #[.slice A n c] w (RetSp w I O P) := by
  have hpo := pow_le8 hP
  have hI8 : I ≤ 255 := by omega
  have hlen := hs.length
  have hfl := flat8_len P hPo
  have hnl : (numB I).length ≤ 10 := (numF_len 9 I).2
  have hN1 : 1 ≤ (numB I).length := (numF_len 9 I).1
  obtain ⟨hsh, hpx⟩ := shl_num P.length (by omega)
  have HNR : Hid (numR ⟨bs, 0⟩ 255 = (⟨O ++ P.flatten, 0⟩, (I : Int))) := by show _ = _; rw [hbs]; exact num_sig hI8 _
  have HFA := Lib.hid (fun (k : Nat) (d : List Int) (hd : P[k]? = some d) => flat_at hO hPo hd (numB I))
  have HFO : Hid ((((numB I ++ (O ++ P.flatten)).drop (numB I).length).take 144) = O) := by show _ = _; rw [List.drop_left, ← hO, List.take_left]
  rw [← hbs] at HFA HFO
  have hRl : (O ++ P.flatten).length = 144 + P.length * 8 := by rw [List.length_append, hO, hfl]
  have hnk : n = (numB I).length + (144 + P.length * 8) := by rw [← hlen, hbs, List.length_append, hRl]
  have hnbig : n ≤ 1073741824 := by omega
  obtain ⟨h, hh⟩ : ∃ h, P.length = h := ⟨_, rfl⟩
  obtain ⟨k, hk⟩ : ∃ k, (numB I).length = k := ⟨_, rfl⟩
  obtain ⟨p, hp⟩ : ∃ p, 2 ^ h = p := ⟨_, rfl⟩
  rw [hh] at hsh hpo hP hRl hnk hI
  rw [hp] at hsh hpo hI
  rw [hk] at HFA HFO hnk hN1
  obtain ⟨R, hR⟩ : ∃ R, O ++ P.flatten = R := ⟨_, rfl⟩
  rw [hR] at HNR hRl
  clear hpx
  obtain ⟨b, o, rfl, hbb, hcl⟩ := hs.spot (by omega) (by omega)
  obtain ⟨z, hz⟩ : ∃ z, w.heap.size = z := ⟨_, rfl⟩
  obtain ⟨w1, hw1⟩ : ∃ w1, w.alloc (.cells #[.int .i64 0, .slice none 0 0, .slice none 0 0] 86) = w1 := ⟨_, rfl⟩
  have hb1 : Below w.heap.size w w1 := hw1 ▸ below_new w _
  have kr : Bk w1 z 86 (prC 0 (.slice none 0 0) (.slice none 0 0)) := hw1 ▸ Bk.at_ w _ #[.int .i64 0, .slice none 0 0, .slice none 0 0] hz rfl
  have HW := Lib.hid hw1; have HB1 := Lib.hid hb1; have HZ := Lib.hid hz; have HR1 := Lib.hid kr; have HS := Lib.hid hs; have HBO := Lib.hid hb; have HPO := Lib.hid hPo
  have HOL := Lib.hid hO; have HBB := Lib.hid hbb; have HPH := Lib.hid hh; have HRL := Lib.hid hRl
  have HNR1 := Lib.hid (newReader_any w1 (some ⟨b, o, none⟩) n c bs hb (hs.later hb1) hnbig)
  have hcw : IntKind.i64.wrap (I : Int) = I := IntWalk.i64_in _ (by omega)
  have hk10 : k ≤ 10 := by rw [← hk]; exact hnl
  obtain ⟨q, hq⟩ : ∃ q, 144 + h * 8 = q := ⟨_, rfl⟩
  rw [hq] at HRL hnk
  have HNK := Lib.hid hnk; have HQ := Lib.hid hq
  obtain ⟨m, hm⟩ : ∃ m, h * 8 = m := ⟨_, rfl⟩
  obtain ⟨hq6, hq7, hh0, hkq, hkn, hkz, hncc, hnk2, hnck, hq1, hq2, hq5, hkq2, hkq3, hkq4, hwm⟩ := split_nums hnk hq hm hP hI hN1 hk10 hcc
  have hmk : ∀ W, (Instr.makeSlice 32 (.int .i64 h) (.int .i64 h)).run Tryd.prog W = .ok (.slice (some ⟨W.heap.size, 0, none⟩) h h) (W.alloc (.cells (madeCells zeroC (h * 8)) 23)) := fun W => make_dg h (Nat.le_trans hP (by decide)) W
  have HQ3 := Lib.hid (mod8 hm)
  have HQ4 := Lib.hid (div8 hm)
  clear hw1 hb1 kr hz hs hb hPo hfl hnl hlen hbs hR hk hh hp hnk hq hRl hnbig hm hO hbb hcl
  have HPB := Lib.hid hpo
  clear hpo
  go_enter Tryd.func41, Tryd.ntmps41
  go_upto_region 1 with fail
  rw [HW.out, HZ.out]
  go_wp2_with fail
  refine HNR1.out.mono ?_
  rintro e w2 ⟨⟨g, rfl, hg, hrd⟩, hbn⟩
  have HR2 := Lib.hid (HR1.out.later hbn); have HB2 := Lib.hid (below_then HB1.out hbn); have HRD := Lib.hid hrd
  have HGZ : Hid (z < g) := by have := HR1.out.lt; show z < g; omega
  clear hrd hbn hg HNR1 HR1
  go_wp2_with fail
  have hnm := rdNum_any w2 g ⟨bs, 0⟩ HRD.out 255
  rw [HNR.out] at hnm
  refine hnm.mono ?_
  clear hnm
  rintro e w3 ⟨rfl, hrd, hg3⟩
  have HRD3 := Lib.hid hrd
  have HR3 := Lib.hid (HR2.out.grown hg3 (by intro e; injection e with e; have := HGZ.out; omega)); have HB3 := Lib.hid (below_only HB2.out hg3 HB2.out.size (by have := HGZ.out; have := HZ.out; omega))
  clear hrd hg3 HR2 HB2 HRD
  go_wp2_with fail
  refine (rdErr_any _ g _ HRD3.out).mono ?_
  rintro e w4 ⟨rfl, rfl⟩
  go_wp2_with fail
  refine (rdLeft_any _ g _ HRD3.out).mono ?_
  rintro e w4 ⟨rfl, q4, rfl⟩
  rw [HRL.out]
  go_wp2_with (with_reducible refine stop_bin .rem _ _ _ _ rfl ?_)
  refine StopD.go ?_
  rw [hwm]
  obtain ⟨x, hx, hx0⟩ : ∃ x : Int, (m : Int).tmod 8 = x ∧ (x != 0) = false := ⟨_, rfl, by rw [HQ3.out]; rfl⟩
  go_upto_region 8 with fail
  clear hx hx0
  go_wp2_with (with_reducible refine stop_bin .quo _ _ _ _ rfl ?_)
  refine StopD.go ?_
  rw [hwm]
  obtain ⟨y, hy, hy1⟩ : ∃ y : Int, (m : Int).tdiv 8 = y ∧ wrap64 y = (h : Int) := ⟨_, rfl, by rw [HQ4.out]; exact hq5⟩
  go_upto_region 9 with fail
  clear hy
  rw [hy1]
  clear hy1
  have hh8 : (h : Int) ≤ 8 := Int.ofNat_le.2 hP
  have hq8 : decide (p ≤ I) = false := decide_eq_false (Nat.not_le.2 hI)
  have HH8 := Lib.hid hP
  have HNC := Lib.hid hncc; have HCC := Lib.hid hcc; have HK10 := Lib.hid hk10
  clear hcc hI8 hP hN1 hI hk10 hkq hq2 hkn hkz hncc hnk2 hnck hq1 hkq2 hkq3 hkq4 hwm hcw
  go_upto_region 11 with fail
  have hbn : Below w3.heap.size w3 (w3.drewN q4) := below_draws w3 w3.heap.size q4
  have HR5 := Lib.hid (HR3.out.later hbn); have HB5 := Lib.hid (below_then HB3.out hbn)
  obtain ⟨w5, hw5⟩ : ∃ x, w3.drewN q4 = x := ⟨_, rfl⟩
  rw [hw5] at HR5 HB5 ⊢
  obtain ⟨ge, hge⟩ : ∃ g, w5.heap.size = g := ⟨_, rfl⟩
  obtain ⟨w6, hw6⟩ : ∃ x, w5.alloc (.cells (madeCells zeroC (h * 8)) 23) = x := ⟨_, rfl⟩
  have hE6 : Bk w6 ge 23 (cellsD (fillD P 0)) := by rw [← hw6, ← hge, fillD_zero, HPH.out]; exact made_bk w5 h
  have hbn : Below w5.heap.size w5 w6 := hw6 ▸ below_new w5 _
  have HE6 := Lib.hid hE6; have HR6 := Lib.hid (HR5.out.later hbn); have HB6 := Lib.hid (below_then HB5.out hbn)
  have HGE : Hid (z < ge) := by have := HR5.out.lt; show z < ge; omega
  have HGW := Lib.hid hge; have HW6 := Lib.hid hw6
  clear hbn hw5 hge hw6 hE6 HR5 HB5 HR3 HB3 hq6 hq7 hq8 hsh hq5 HRD3
  go_upto_region 12 with fail
  rw [HGW.out, HW6.out]
  clear hmk
  obtain ⟨u, hu⟩ : ∃ u, o + k = u := ⟨_, rfl⟩
  have HU := Lib.hid hu
  rw [hu]
  obtain ⟨cc, hcd⟩ : ∃ cc, c - k = cc := ⟨_, rfl⟩
  have HCD : Hid (q ≤ cc) := by have := HNK.out; have := HCC.out; show q ≤ cc; omega
  rw [hcd]
  clear hu hcd
  go_wp2_with fail
  go_loopw [9, 10, 55] (fun _ _ kv wr => ∃ i : Nat, i ≤ h ∧ kv = .int .i64 i ∧ Hid (Bk wr ge 23 (cellsD (fillD P i))) ∧ Hid (Bk wr z 86 (prC 0 (.slice none 0 0) (.slice none 0 0))) ∧ Hid (Below w.heap.size w wr)) (fun _ _ kv _ => h - (intOf kv).toNat)
  case atStart => exact ⟨0, Nat.zero_le _, rfl, HE6, HR6, HB6⟩
  case round =>
    obtain ⟨i, hi, rfl, HE, HR, HB⟩ := hrel
    have hqq := HQ.out
    by_cases hlt : i < h
    · have hki : (i : Int) < h := by omega
      have hk0 : (0 : Int) ≤ i := by omega
      have HPI : Hid (P[i]? = some (P[i]'(by rw [HPH.out]; exact hlt))) := List.getElem?_eq_getElem _
      obtain ⟨d, hd⟩ : ∃ d, P[i]'(by rw [HPH.out]; exact hlt) = d := ⟨_, rfl⟩
      rw [hd] at HPI
      have HDO : Hid (DgOk d) := HPO.out d (List.mem_of_getElem? HPI.out)
      obtain ⟨f, hf⟩ : ∃ f, 144 + i * 8 = f := ⟨_, rfl⟩
      have hrg : wr.rangeAt b (u + f) (dl d) := by
        have := sl_cutr (HS.out.below HB.out) (k := k + (144 + i * 8)) (m := 8) (by have := HNK.out; omega)
        rw [HFA.out i d HPI.out, hf, ← Nat.add_assoc, HU.out] at this
        exact this
      have HG := Lib.hid hrg
      obtain ⟨f2, hf2⟩ : ∃ f2, f + 8 = f2 := ⟨_, rfl⟩
      have hcq := HCD.out
      have v1 : wrap64 (i * 8) = i * 8 := IntWalk.wrap64_in _ (by omega)
      have v2 : wrap64 (144 + (i : Int) * 8) = f := by rw [IntWalk.wrap64_in _ (by omega)]; omega
      have v3 : wrap64 ((f : Int) + 8) = f2 := by rw [IntWalk.wrap64_in _ (by omega)]; omega
      have v4 : (f : Int) ≤ f2 := by omega
      have v5 : (f2 : Int) ≤ cc := by omega
      have v6 : (0 : Int) ≤ f := by omega
      have v7 : (144 : Int) + i * 8 = f := by omega
      have v8 : (f : Int) + 8 = f2 := by omega
      have h8 : f2 - f = 8 := by omega
      have har : ∀ w, (Instr.arrayAt 23 (.slice (some ⟨b, u + f, none⟩) 8 (cc - f))).run Tryd.prog w = .ok (.pointer (some ⟨b, u + f, none⟩)) w := fun w => run_arrayAt_eight _ _ w
      have hh := HH8.out
      clear hd hrg hf hf2 hqq hcq
      go_wp2_with (first
        | (with_reducible refine wpList_load_mid rfl 23 _ rfl b (u + f) rfl (dl d) _ HG.out Tryd.underlying23 rfl (hdg_size _ HDO.out) ?_)
        | (with_reducible refine stop_store 23 _ _ rfl ?_))
      refine StopD.go ?_
      refine wpList_store_part rfl 23 _ _ rfl ge (i * 8) (.agg (dl d).toArray) (dl d) rfl rfl rfl 23 (cellsD (P.take i)) (dl zeroD) (cellsD (List.replicate (P.length - (i + 1)) zeroD)) (by rw [← fillD_old (by rw [HPH.out]; exact hlt)]; exact HE.out) (take_lenD HPO.out (by rw [HPH.out]; omega)) (dg_lensw HDO.out) (hdg_size _ HDO.out) (dl_one' _) ?_
      intro w7 hp
      have HE7 : Hid (Bk w7 ge 23 (cellsD (fillD P (i + 1)))) := by show Bk _ _ _ _; rw [← fillD_new HPI.out]; exact hp.bk
      have HR7 := Lib.hid (HR.out.grown hp.only (by intro e; injection e with e; have := HGE.out; omega)); have HB7 := Lib.hid (below_only HB.out hp.only HB.out.size (by have := HGE.out; have := HZ.out; omega))
      clear hp HE HR HB v1 v2 v3 v4 v5 v6 v7 v8 h8 har
      go_wp2_with fail
      go_roundw
      case rel => exact ⟨i + 1, hlt, by go_num, HE7, HR7, HB7⟩
      case measure => simp [intOf]; omega
    · have hki : ¬ ((i : Int) < h) := by omega
      obtain rfl : i = h := by omega
      have hE : Bk wr ge 23 (cellsD P) := by have := HE.out; rwa [show fillD P i = P by have := fillD_all P; rwa [HPH.out] at this] at this
      have hcq := HCD.out
      have v1 : (144 : Int) ≤ cc := by omega
      have HBD := Lib.hid (fun W => pr_build (I : Int) (some ⟨b, u, none⟩) (some ⟨ge, 0, none⟩) 144 cc i i W)
      have HE9 := Lib.hid hE
      clear hE hcq hqq HE
      go_wp2_with (first
        | ((with_reducible refine wpList_build rfl 86 _ rfl #[(0, .int .i64 I), (1, .slice (some ⟨b, u, none⟩) 144 cc), (2, .slice (some ⟨ge, 0, none⟩) i i)] ?_ _ (HBD.out _) ?_); focus (simp [Act.eval, Act.put]; done))
        | (with_reducible refine stop_store 86 _ _ rfl ?_))
      refine StopD.go ?_
      refine wpList_store_part rfl 86 _ _ rfl z 0 (.agg (prC (I : Int) (.slice (some ⟨b, u, none⟩) 144 cc) (.slice (some ⟨ge, 0, none⟩) i i)).toArray) (prC (I : Int) (.slice (some ⟨b, u, none⟩) 144 cc) (.slice (some ⟨ge, 0, none⟩) i i)) rfl rfl rfl 86 [] (prC 0 (.slice none 0 0) (.slice none 0 0)) [] (by simpa using HR.out) rfl rfl (pr_size _ _ _) (pr_one _ _ _ _ _ _ _) ?_
      intro wz hp
      have HTz : Hid (Bk wz z 86 (prC (I : Int) (.slice (some ⟨b, u, none⟩) 144 cc) (.slice (some ⟨ge, 0, none⟩) i i))) := by show Bk _ _ _ _; have := hp.bk; simpa using this
      have HBz := Lib.hid (below_only HB.out hp.only HB.out.size (Nat.le_of_eq HZ.out))
      have HEz := Lib.hid (HE9.out.grown hp.only (by intro e; injection e with e; have := HGE.out; omega))
      clear hp HB HR HE9
      go_wp2_with fail
      refine bodyPost_ret (split_ret HTz.out _ rfl rfl) rfl ?_
      have hl := HPH.out
      refine ⟨some ⟨b, u, none⟩, cc, some ⟨ge, 0, none⟩, i, by rw [hl]; rfl, ?_, by have := HCD.out; have := HQ.out; omega, ?_, HBz.out⟩
      · have hr := sl_cutr (HS.out.below HBz.out) (k := k) (m := 144) (by have := HNK.out; have := HQ.out; omega)
        rw [HFO.out, HU.out] at hr
        exact sl_of_rng (by rw [List.length_map, HOL.out]) (by omega) (Nat.lt_of_lt_of_le HBB.out HBz.out.size) hr
      · rw [hl]
        exact HEz.out.sl (by rw [cellsD_len HPO.out, hl]) (by have := HH8.out; omega) (fun j u h => h)
theorem num_nil4 : numR ⟨[], 0⟩ 255 = (⟨[], 4⟩, 0) := by rw [num_nil]; rfl
def RetSp0 (w : World) (e : Ending) (w' : World) : Prop := e = .returned (.tuple #[.agg (prC 0 (.slice none 0 0) (.slice none 0 0)).toArray, .bool false]) ∧ Below w.heap.size w w'
set_option maxRecDepth 20000 in
set_option maxHeartbeats 2000000 in
theorem split_nil_any (w : World) : Calls Tryd.prog 41 #[.slice none 0 0] w (RetSp0 w) := by
  obtain ⟨z, hz⟩ : ∃ z, w.heap.size = z := ⟨_, rfl⟩
  obtain ⟨w1, hw1⟩ : ∃ w1, w.alloc (.cells #[.int .i64 0, .slice none 0 0, .slice none 0 0] 86) = w1 := ⟨_, rfl⟩
  have hb1 : Below w.heap.size w w1 := hw1 ▸ below_new w _
  have kr : Bk w1 z 86 (prC 0 (.slice none 0 0) (.slice none 0 0)) := hw1 ▸ Bk.at_ w _ #[.int .i64 0, .slice none 0 0, .slice none 0 0] hz rfl
  have HW := Lib.hid hw1; have HB1 := Lib.hid hb1; have HZ := Lib.hid hz; have HR1 := Lib.hid kr
  have HNR1 := Lib.hid (newReader_any w1 none 0 0 [] (fun b hb => by cases hb) Sl.nil (by omega))
  clear hw1 hb1 kr hz
  go_enter Tryd.func41, Tryd.ntmps41
  go_upto_region 1 with fail
  rw [HW.out, HZ.out]
  go_wp2_with fail
  refine HNR1.out.mono ?_
  rintro e w2 ⟨⟨g, rfl, hg, hrd⟩, hbn⟩
  have HR2 := Lib.hid (HR1.out.later hbn); have HB2 := Lib.hid (below_then HB1.out hbn); have HRD := Lib.hid hrd
  have HGZ : Hid (z < g) := by have := HR1.out.lt; show z < g; omega
  clear hrd hbn hg HNR1 HR1
  go_wp2_with fail
  have hnm := rdNum_any w2 g ⟨[], 0⟩ HRD.out 255
  rw [num_nil4] at hnm
  refine hnm.mono ?_
  clear hnm
  rintro e w3 ⟨rfl, hrd, hg3⟩
  have HRD3 := Lib.hid hrd
  have HR3 := Lib.hid (HR2.out.grown hg3 (by intro e; injection e with e; have := HGZ.out; omega)); have HB3 := Lib.hid (below_only HB2.out hg3 HB2.out.size (by have := HGZ.out; have := HZ.out; omega))
  clear hrd hg3 HR2 HB2 HRD
  go_wp2_with fail
  refine (rdErr_any _ g _ HRD3.out).mono ?_
  rintro e w4 ⟨rfl, rfl⟩
  have HBD := Lib.hid pr_build0
  go_wp2_with (first
    | ((with_reducible refine wpList_build rfl 86 _ rfl #[] ?_ _ (HBD.out _) ?_); focus (simp [Act.eval, Act.put]; done))
    | (with_reducible refine stop_store 86 _ _ rfl ?_))
  refine StopD.go ?_
  refine wpList_store_part rfl 86 _ _ rfl z 0 (.agg (prC 0 (.slice none 0 0) (.slice none 0 0)).toArray) (prC 0 (.slice none 0 0) (.slice none 0 0)) rfl rfl rfl 86 [] (prC 0 (.slice none 0 0) (.slice none 0 0)) [] (by simpa using HR3.out) rfl rfl (pr_size _ _ _) (pr_one _ _ _ _ _ _ _) ?_
  intro wz hp
  have HTz : Hid (Bk wz z 86 (prC 0 (.slice none 0 0) (.slice none 0 0))) := by show Bk _ _ _ _; have := hp.bk; simpa using this
  have HBz := Lib.hid (below_only HB3.out hp.only HB3.out.size (Nat.le_of_eq HZ.out))
  clear hp
  go_wp2_with fail
  refine bodyPost_ret (split_ret HTz.out _ rfl rfl) rfl ?_
  exact ⟨rfl, HBz.out⟩
end Go.Proofs.YtakfdlokgddaoaaDoor
