/- Who signs, and what is shown: the walk. -/
import Derived.Test.YtakfdlokgddaoaaDoorWO
namespace Go.Proofs.YtakfdlokgddaoaaDoor
set_option linter.unusedSimpArgs false
set_option linter.unusedVariables false
open Go.RowKit Go.Maps

def fallC (x : List Int × Int) : List Value := dl x.1 ++ [.int .u8 x.2]
def fallsC (xs : List (List Int × Int)) : List Value := xs.flatMap fallC
structure FallsOk (xs : List (List Int × Int)) : Prop where
  dg : ∀ x ∈ xs, DgOk x.1
  by_ : ∀ x ∈ xs, 0 ≤ x.2 ∧ x.2 < 256
theorem fallC_len {x : List Int × Int} (h : DgOk x.1) : (fallC x).length = 9 := by simp [fallC, dl_len, h.len]
theorem falls_at : ∀ (xs : List (List Int × Int)), (∀ x ∈ xs, DgOk x.1) → ∀ (k j : Nat) (x : List Int × Int), xs[k]? = some x → j < 9 → (fallsC xs)[k * 9 + j]? = (fallC x)[j]?
  | [], _, k, j, x, h, _ => by simp at h
  | y :: xs, ho, k, j, x, h, hj => by
    have hy := fallC_len (ho y (by simp))
    cases k with
    | zero =>
      simp at h; subst h
      rw [fallsC, List.flatMap_cons, List.getElem?_append_left (by rw [hy]; omega)]; simp
    | succ k =>
      have := falls_at xs (fun z hz => ho z (by simp [hz])) k j x (by simpa using h) hj
      rw [fallsC, List.flatMap_cons, List.getElem?_append_right (by rw [hy]; omega), hy, show (k + 1) * 9 + j - 9 = k * 9 + j by omega]
      exact this
theorem falls_len : ∀ (xs : List (List Int × Int)), (∀ x ∈ xs, DgOk x.1) → (fallsC xs).length = xs.length * 9
  | [], _ => rfl
  | y :: xs, ho => by
    have hy := fallC_len (ho y (by simp))
    rw [fallsC, List.flatMap_cons, List.length_append, hy, List.length_cons]
    have := falls_len xs (fun z hz => ho z (by simp [hz]))
    rw [fallsC] at this
    omega
theorem fall_is {w : World} {B n b o k : Nat} {xs : List (List Int × Int)} {x : List Int × Int} (hs : Sl w B 9 (some ⟨b, o, none⟩) n (fallsC xs)) (ho : ∀ x ∈ xs, DgOk x.1) (hx : xs[k]? = some x) :
    w.rangeAt b (o + k * 9) (dl x.1) ∧ w.cell? ⟨b, o + k * 9 + 8, none⟩ = some (.int .u8 x.2) := by
  have hl := hs.len
  rw [falls_len xs ho] at hl
  have hk := (List.getElem?_eq_some_iff.1 hx).1
  have hxo := ho x (List.mem_of_getElem? hx)
  obtain ⟨b', o', e, _, hc⟩ := hs.spot (by omega) (by omega)
  injection e with e; injection e with e1 e2
  subst e1 e2
  refine ⟨fun j u hu => ?_, ?_⟩
  · have hj : j < 8 := by have := (List.getElem?_eq_some_iff.1 hu).1; rwa [dl_len, hxo.len] at this
    have := hc (k * 9 + j) u (by rw [falls_at xs ho k j x hx (by omega), fallC, List.getElem?_append_left (by rw [dl_len, hxo.len]; exact hj)]; exact hu)
    rwa [← Nat.add_assoc] at this
  · have := hc (k * 9 + 8) (.int .u8 x.2) (by rw [falls_at xs ho k 8 x hx (by omega), fallC, List.getElem?_append_right (by rw [dl_len, hxo.len]; omega)]; simp [dl_len, hxo.len])
    rwa [← Nat.add_assoc] at this
theorem infoBsW : (Tryd.prog.info? 29).map (fun i => (i.zero, i.size, i.bytes)) = some (some (.slice none 0 0), 1, 24) := by kernel_rfl
theorem bs_partsw : ∃ i z, Tryd.prog.info? 29 = some i ∧ i.zero = some z ∧ i.size = 1 ∧ i.bytes = 24 ∧ z.cells.size = 1 := by
  obtain ⟨d0, h1, h2, h3, h4⟩ := info_parts infoBsW
  exact ⟨d0, _, h1, h2, h3, h4, rfl⟩
theorem bs_sw (A : Option Addr) (n c : Nat) (w : World) : (Instr.buildSlice 33 1 #[(0, .slice A n c)]).run Tryd.prog w = .ok (.slice (some ⟨w.heap.size, 0, none⟩) 1 1) (w.alloc (.cells ([Value.slice A n c]).toArray 29)) := by kernel_rfl
theorem row_at {w : World} {base n b o j : Nat} {c : Nat} {t : TypeId} {vs : List Value} {v : Value} (h : w.ownsRow base t 1 (.slice (some ⟨b, o, none⟩) n c) n vs) (hv : vs[j]? = some v) : w.cell? ⟨b, o + j, none⟩ = some v := by
  have hs := Sl.of_own h
  have hj := (List.getElem?_eq_some_iff.1 hv).1
  have hl := hs.len
  obtain ⟨b', o', e, _, hc⟩ := hs.spot (by omega) (by omega)
  injection e with e; injection e with e1 e2
  subst e1 e2
  exact hc j v hv
theorem dgs_at {w : World} {base n b o j : Nat} {c : Nat} {ms : List (List Int)} {m : List Int} (h : w.ownsRow base 23 8 (.slice (some ⟨b, o, none⟩) n c) n (cellsD ms)) (ho : DsOk ms) (hm : ms[j]? = some m) : w.rangeAt b (o + j * 8) (dl m) := by
  have hs := Sl.of_own h
  have hj := (List.getElem?_eq_some_iff.1 hm).1
  have hl := hs.dgs ho
  exact sl_dgl hs ho hm
/-- What is looked at, of the j-th signature. -/
structure Seen (w : World) (B : Nat) (bm om bt ot j : Nat) (m : List Int) (v : Value) (A : Option Addr) (n : Nat) (s : List Int) : Prop where
  rg : w.rangeAt bm (om + j * 8) (dl m)
  ce : w.cell? ⟨bt, ot + j, none⟩ = some v
  sl : Sl w B 1 A n (s.map (.int .u8))
  lm : bm < B
  lt : bt < B
theorem Seen.below {w w' : World} {B bm om bt ot j : Nat} {m : List Int} {v : Value} {A : Option Addr} {n : Nat} {s : List Int} (k : Seen w B bm om bt ot j m v A n s) (hb : Below B w w') : Seen w' B bm om bt ot j m v A n s :=
  ⟨fun i u hu => (hb.cell k.lm).trans (k.rg i u hu), (hb.cell k.lt).trans k.ce, k.sl.below hb, k.lm, k.lt⟩
theorem Seen.later {w w' : World} {bm om bt ot j : Nat} {m : List Int} {v : Value} {A : Option Addr} {n : Nat} {s : List Int} (k : Seen w w.heap.size bm om bt ot j m v A n s) (hb : Below w.heap.size w w') : Seen w' w'.heap.size bm om bt ot j m v A n s :=
  have h := k.below hb
  ⟨h.rg, h.ce, h.sl.more hb.size, Nat.lt_of_lt_of_le h.lm hb.size, Nat.lt_of_lt_of_le h.lt hb.size⟩
theorem Seen.later' {w w' : World} {B bm om bt ot j : Nat} {m : List Int} {v : Value} {A : Option Addr} {n : Nat} {s : List Int} (k : Seen w B bm om bt ot j m v A n s) (hB : w.heap.size = B) (hb : Below B w w') : Seen w' w'.heap.size bm om bt ot j m v A n s := by
  subst hB; exact k.later hb
theorem seen_of {w : World} {lo g b gp : Nat} {V : Value} {T : Tr} {tlo thi : Nat} {sec R : List Int} {L ms : List (List Int)} {vs : List Value} {Bs : List (Value × List Int)} {bm om cm bt ot ct N j : Nat} (k : Wl w lo sec L g b V T tlo thi gp R (.slice (some ⟨bm, om, none⟩) N cm) ms (.slice (some ⟨bt, ot, none⟩) N ct) vs Bs) (q : Sgs sec L ms vs Bs) (hN : ms.length = N) {m : List Int} (hm : ms[j]? = some m) :
    ∃ A c, Seen w w.heap.size bm om bt ot j m (.slice A (sgI sec 3 L m).length c) A (sgI sec 3 L m).length (sgI sec 3 L m) ∧ (sgI sec 3 L m).length ≤ c := by
  obtain ⟨v, hv, hb⟩ := q.sg j m hm
  obtain ⟨A, c, he, hs, hc⟩ := own_slw (k.bs _ hb)
  simp only at he
  subst he
  have hrt := k.rt
  rw [q.len, hN] at hrt
  have hrm := k.rm
  rw [hN] at hrm
  have hj := (List.getElem?_eq_some_iff.1 hm).1
  have hl1 := (own_lt hrt (q := bt) rfl).2
  have hl2 := (own_lt hrm (q := bm) rfl).2
  exact ⟨A, c, ⟨dgs_at hrm k.mo hm, row_at hrt hv, hs, hl2, hl1⟩, hc⟩
theorem spots {w : World} {lo g b gp : Nat} {V : Value} {T : Tr} {tlo thi : Nat} {sec R : List Int} {L ms : List (List Int)} {vs : List Value} {Bs : List (Value × List Int)} {Am At : Option Addr} {cm ct N : Nat} (k : Wl w lo sec L g b V T tlo thi gp R (.slice Am N cm) ms (.slice At N ct) vs Bs) (q : Sgs sec L ms vs Bs) (hN : ms.length = N) (h0 : 0 < N) : (∃ b o, Am = some ⟨b, o, none⟩) ∧ ∃ b o, At = some ⟨b, o, none⟩ := by
  have hrt := k.rt
  rw [q.len, hN] at hrt
  have hrm := k.rm
  rw [hN] at hrm
  obtain ⟨b1, o1, e1, _⟩ := (Sl.of_own hrm).spot h0 (by omega)
  obtain ⟨b2, o2, e2, _⟩ := (Sl.of_own hrt).spot h0 (by omega)
  exact ⟨⟨b1, o1, e1⟩, ⟨b2, o2, e2⟩⟩
theorem idx_eq {L : List (List Int)} {a b : List Int} (ha : a ∈ L) (hb : b ∈ L) : decide (L.idxOf a = L.idxOf b) = eqL a b := by
  unfold eqL
  by_cases h : a = b
  · subst h; simp
  · rw [decide_eq_false h, decide_eq_false (fun e => h (led_inj ha hb e))]
theorem sg_eq {sec : List Int} {L : List (List Int)} (hL : LedOk (2 ^ 3) L) {a b : List Int} (ha : a ∈ L) (hb : b ∈ L) : ((strOf (sgI sec 3 L a)).toList == (strOf (sgI sec 3 L b)).toList) = eqL a b := by
  rw [strOf_beq _ _ (sg_parts (sec := sec) hL (by omega) ha).2.2.2.2.2.2 (sg_parts (sec := sec) hL (by omega) hb).2.2.2.2.2.2]
  unfold eqL
  by_cases h : a = b
  · subst h; simp
  · rw [decide_eq_false h, decide_eq_false (fun e => h (sg_inj hL (by omega) ha hb e))]
set_option maxRecDepth 20000 in
set_option maxHeartbeats 8000000 in
theorem wleaf_any (w : World) (sec : List Int) (hs : DgOk sec) (A : Option Addr) (n c : Nat) (xs : List (List Int × Int)) (hsl : Sl w w.heap.size 9 A n (fallsC xs)) (ho : FallsOk xs) :
    Calls Tryd.prog 3 #[.agg (dl sec).toArray, .slice A n c] w fun e w' => e = .returned (.bool true) ∧ Below w.heap.size w w' := by
  have hxl : xs.length = n := by have := hsl.len; rw [falls_len xs ho.dg] at this; omega
  have hnl := hsl.le
  obtain ⟨X, hX⟩ : ∃ X, (dl sec).toArray = X := ⟨_, rfl⟩
  obtain ⟨z, hz⟩ : ∃ z, w.heap.size = z := ⟨_, rfl⟩
  obtain ⟨w1, hw1⟩ : ∃ w1, w.alloc (.cells X 23) = w1 := ⟨_, rfl⟩
  have hb1 : Below w.heap.size w w1 := hw1 ▸ below_new w _
  have kx : Bk w1 z 23 (dl sec) := hw1 ▸ Bk.at_ w _ X hz (by rw [← hX])
  have HW := Lib.hid hw1; have HX1 := Lib.hid kx; have HZ := Lib.hid hz; have HSO := Lib.hid hs; have HB1 := Lib.hid hb1
  have HKN := Lib.hid (knew_any w1 sec hs 3 (by omega))
  have HXO := Lib.hid ho; have HSL := Lib.hid hsl; have HXL := Lib.hid hxl; have HNL := Lib.hid hnl
  rw [hX]
  clear hX hw1 hb1 kx hz hs hsl ho hxl
  go_enter Tryd.func3, Tryd.ntmps3
  go_upto_region 1 with fail
  rw [HW.out, HZ.out]
  go_wp2_with (with_reducible refine wpList_load_bk rfl 23 _ rfl z rfl (dl sec) 23 HX1.out _ Tryd.underlying23 rfl (hdg_size _ HSO.out) ?_)
  refine HKN.out.mono ?_
  rintro e w2 ⟨g, b, T, tlo, thi, rfl, hr, hbn⟩
  have HR2 := Lib.hid (hr.mono HB1.out.size); have HB2 := Lib.hid (below_then HB1.out hbn)
  clear hr hbn HKN HB1 HX1
  go_wp2_with fail
  refine (save_any w2 _ _ _ _ _ sec 3 [] HR2.out.led HSO.out (by omega) (by simp)).mono ?_
  rintro e w3 ⟨sv, rfl, hown, hbn⟩
  have HR3 := Lib.hid (HR2.out.later hbn); have HS3 := Lib.hid (own_base hown HB2.out.size); have HB3 := Lib.hid (below_then HB2.out hbn)
  clear hown hbn HR2 HB2
  go_wp2_with fail
  have HKP := Lib.hid (kpub_any w3 _ _ _ _ _ _ _ _ _ _ HR3.out)
  have HPO := Lib.hid (rootI_ok (leavesI sec 3))
  obtain ⟨R, hR⟩ : ∃ x, rootI (leavesI sec 3) = x := ⟨_, rfl⟩
  have HRE := Lib.hid hR
  rw [hR] at HKP HPO
  clear hR
  refine HKP.out.mono ?_
  rintro e w4 ⟨rfl, hbn⟩
  have HR4 := Lib.hid (HR3.out.later hbn); have HS4 := Lib.hid (own_keep HS3.out hbn); have HB4 := Lib.hid (below_then HB3.out hbn)
  clear hbn HR3 HS3 HB3 HKP
  go_wp2_with (with_reducible refine stop_store 23 _ _ rfl ?_)
  refine StopD.go ?_
  obtain ⟨g5, hg5⟩ : ∃ g, w4.heap.size = g := ⟨_, rfl⟩
  have hbn : Below w4.heap.size w4 (w4.alloc (.cells #[.int .u8 0, .int .u8 0, .int .u8 0, .int .u8 0, .int .u8 0, .int .u8 0, .int .u8 0, .int .u8 0] 23)) := below_new w4 _
  have kt : Bk (w4.alloc (.cells #[.int .u8 0, .int .u8 0, .int .u8 0, .int .u8 0, .int .u8 0, .int .u8 0, .int .u8 0, .int .u8 0] 23)) g5 23 ([] ++ (dl zeroD ++ [])) := by rw [← hg5]; exact Bk.new' w4 _ #[.int .u8 0, .int .u8 0, .int .u8 0, .int .u8 0, .int .u8 0, .int .u8 0, .int .u8 0, .int .u8 0] rfl
  rw [hg5]
  refine wpList_store_part rfl 23 _ _ rfl g5 0 (.agg (dl R).toArray) (dl R) rfl rfl rfl 23 [] (dl zeroD) [] kt rfl (by rw [dl_len, dl_len, HPO.out.len]; rfl) (hdg_size _ HPO.out) (dl_one' _) ?_
  intro w5 hp
  have hbn : Below w4.heap.size w4 w5 := hbn.grown hp.only hbn.size (fun q hq => by injection hq with hq; omega)
  have HP5 : Hid (Bk w5 g5 23 (dl R)) := by show Bk _ _ _ _; have := hp.bk; simpa using this
  clear hp kt
  have HR5 := Lib.hid (HR4.out.later hbn); have HS5 := Lib.hid (own_keep HS4.out hbn); have HB5 := Lib.hid (below_then HB4.out hbn)
  have HWL : Hid (Wl w5 w.heap.size sec [] g b (.slice none 0 0) T tlo thi g5 R (.slice none 0 0) [] (.slice none 0 0) [] [(sv, saveI sec 3 [])]) :=
    ⟨HR5.out, HP5.out, World.ownsRow_nil _ _ _ _, World.ownsRow_nil _ _ _ _, (fun p hp => by rw [List.mem_singleton] at hp; subst hp; exact HS5.out), by simp [Value.ownBlock], by simp [Value.ownBlock], (fun q hq => by simp [Value.ownBlock] at hq), (fun q hq => by simp [Value.ownBlock] at hq), (fun d hd => by cases hd), HB5.out.size⟩
  clear hbn hg5 HR4 HS4 HB4 HR5 HS5 HP5
  go_wp2_with fail
  go_loopw [5, 7, 9, 10, 11] (fun rv sv mv tv iv wr => ∃ (i : Nat) (L : List (List Int)) (g b : Nat) (V : Value) (T : Tr) (tlo thi : Nat) (ms : List (List Int)) (vs : List Value) (Bs : List (Value × List Int)), i ≤ n ∧ i ≤ 12 ∧ iv = .int .i64 i ∧ rv = .pointer (some ⟨g, 0, none⟩) ∧ ms.length ≤ i ∧ (sv, saveI sec 3 L) ∈ Bs ∧ Hid (Wl wr w.heap.size sec L g b V T tlo thi g5 R mv ms tv vs Bs) ∧ Hid (Sgs sec L ms vs Bs) ∧ Hid (Below w.heap.size w wr)) (fun _ _ _ _ iv _ => n - (intOf iv).toNat)
  case atStart => exact ⟨0, [], g, b, _, T, tlo, thi, [], [], _, Nat.zero_le _, Nat.zero_le _, rfl, rfl, Nat.zero_le _, by simp, HWL, Sgs.nil _ _ _, HB5⟩
  case round =>
    obtain ⟨i, L, g, b, V, T, tlo, thi, ms, vs, Bs, hi, hi12, rfl, rfl, hml, hsv, HWL, HSG, HB⟩ := hrel
    have hnl := HNL.out
    by_cases hlt : i < n
    · by_cases h12 : i < 12
      · have hki : (i : Int) < n := by omega
        have hk12 : (i : Int) < 12 := by omega
        have hk0 : (0 : Int) ≤ i := by omega
        obtain ⟨⟨m, f⟩, hx⟩ : ∃ x, xs[i]? = some x := ⟨xs[i]'(by rw [HXL.out]; exact hlt), List.getElem?_eq_getElem _⟩
        obtain ⟨fb, fo, rfl, _, _⟩ := HSL.out.spot (by omega) (by omega)
        have HFA : Hid (∀ w', Below w.heap.size w w' → w'.rangeAt fb (fo + i * 9) (dl m) ∧ w'.cell? ⟨fb, fo + i * 9 + 8, none⟩ = some (.int .u8 f)) := fun w' hb => fall_is (HSL.out.below hb) HXO.out.dg hx
        have HMO : Hid (DgOk m) := HXO.out.dg _ (List.mem_of_getElem? hx)
        have hf := HXO.out.by_ _ (List.mem_of_getElem? hx)
        have hle1 := HWL.out.ring.led_ok.step HMO.out
        obtain ⟨L1, h1⟩ : ∃ L1, stepL (2 ^ 3) L m = L1 := ⟨_, rfl⟩
        obtain ⟨I, hI⟩ : ∃ I, resI (2 ^ 3) L m = I := ⟨_, rfl⟩
        obtain ⟨E, hE⟩ : ∃ E, resE (2 ^ 3) L m = E := ⟨_, rfl⟩
        have HRS := Lib.hid (kres_w HWL.out HMO.out h1 hI hE)
        rw [h1] at hle1
        have HLE := Lib.hid HWL.out.ring.led_ok
        have HLE1 := Lib.hid hle1
        have h11 : stepL (2 ^ 3) L1 m = L1 := by rw [← h1, stepL_twice]
        have H11 := Lib.hid h11
        have HE1 : Hid (resE (2 ^ 3) L1 m = E) := by show _ = _; rw [← hE, resE, resE, h11, h1]
        have HSG1 : Hid (Sgs sec L1 ms vs Bs) := by have := HSG.out.step (2 ^ 3) m; rwa [h1] at this
        obtain ⟨x, hx4⟩ : ∃ x, f.tmod 4 = x := ⟨_, rfl⟩
        have hxr := rem4 f hf.1
        rw [hx4] at hxr
        have HF := Lib.hid hf; have HML := Lib.hid hml; have HSV := Lib.hid hsv
        clear hf hle1 h1 hI hE h11 hx hml hsv
        rcases hxr with hx0 | hx0 | hx0 | hx0
        · have hxa : (x != 1) = true := by rw [hx0]; rfl
          have hxb : (x == 1) = false := by rw [hx0]; rfl
          have hxc : (x == 2) = false := by rw [hx0]; rfl
          have hxd : (x == 3) = false := by rw [hx0]; rfl
          clear hx0
          go_wp2_with (with_reducible refine wpList_load_mid rfl 23 _ rfl fb (fo + i * 9) rfl (dl m) _ (HFA.out _ HB.out).1 Tryd.underlying23 rfl (hdg_size _ HMO.out) ?_)
          refine HRS.out.mono ?_
          rintro e w6 ⟨rfl, V6, hk6, hbn⟩
          have HW6 := Lib.hid hk6; have HB6 := Lib.hid (HB.out.trans hbn)
          clear hk6 hbn HRS HWL HB
          have c8 := (HFA.out w6 HB6.out).2
          go_wp2_with fail
          refine (ksave_w HW6.out).mono ?_
          rintro e w7 ⟨sv1, rfl, hk7, hbn⟩
          have HW7 := Lib.hid hk7; have HB7 := Lib.hid (HB6.out.trans hbn)
          clear hk7 hbn HW6 HB6 c8
          have c8 := (HFA.out w7 HB7.out).2
          go_wp2_with (with_reducible refine wpList_load_mid rfl 23 _ rfl fb (fo + i * 9) rfl (dl m) _ (HFA.out _ HB7.out).1 Tryd.underlying23 rfl (hdg_size _ HMO.out) ?_)
          clear c8
          refine (ksign_w HW7.out HMO.out H11.out HE1.out).mono ?_
          rintro e w8 ⟨v8, V8, rfl, hk8, hbn⟩
          have HW8 := Lib.hid hk8; have HB8 := Lib.hid (HB7.out.trans hbn)
          clear hk8 hbn HW7 HB7
          have c8 := (HFA.out w8 HB8.out).2
          by_cases hm1 : m ∈ L1
          · obtain rfl : E = 0 := by rw [← HE1.out]; exact resE_in (by rw [H11.out]; exact hm1)
            go_wp2_with (first
              | (with_reducible refine wpList_load_mid rfl 23 _ rfl fb (fo + i * 9) rfl (dl m) _ (HFA.out _ HB8.out).1 Tryd.underlying23 rfl (hdg_size _ HMO.out) ?_)
              | (with_reducible refine stop_bs2 32 _ _ rfl ?_))
            clear c8
            refine StopD.go ?_
            refine wpList_bsliceG2 rfl 32 1 _ rfl #[(0, .agg (dl m).toArray)] (by simp [Act.eval, Act.put]) 23 (dl m) (fun w => bs_dw HMO.out w) ?_
            intro q9 w9 hq hbq hbn
            have HQ9 : Hid (Sl w9 w9.heap.size 8 (some ⟨q9, 0, none⟩) 1 (dl m)) := hbq.sl (by rw [dl_len, HMO.out.len]) (by omega) (fun j u h => h)
            have HW9 := Lib.hid (HW8.out.later hbn); have HB9 := Lib.hid (HB8.out.trans (hbn.mono HB8.out.size))
            obtain ⟨Av, cv, hve, _, _⟩ := own_slw (HW9.out.bs (v8, sgR sec 3 L1 m) (by simp))
            simp only at hve
            subst hve
            clear hq hbq hbn HW8 HB8
            go_wp2_with (at_builtin; refine stop_here2 ?_)
            refine StopD.go ?_
            obtain ⟨i0, z0', ii, ii0, ii1, ii2, ii3⟩ := dg_partsw
            have hmll := HML.out
            refine wpList_app _ rfl (.tmp 123) (.tmp 129) 32 rfl w.heap.size 23 i0 z0' 8 8 Tryd.underlying32 ii ii0 ii1 ii2 ii3 (by decide) _ _ _ rfl HW9.out.rm _ _ _ _ _ rfl HQ9.out (dl_one' _) (by unfold maxLen; omega) (by omega) HB9.out.size ?_
            intro mv' wa hown hg ha
            have HWa := Lib.hid (HW9.out.addM HMO.out hown hg ha)
            have HBa := Lib.hid (grown_below HB9.out HW9.out.rm hg (Nat.le_refl _) HB9.out.size)
            clear hown hg ha HW9 HB9 HQ9 ii ii0 ii1 ii2 ii3
            go_wp2_with (with_reducible refine stop_bs2 33 _ _ rfl ?_)
            refine StopD.go ?_
            refine wpList_bsliceG2 rfl 33 1 _ rfl #[(0, .slice Av (sgR sec 3 L1 m).length cv)] (by simp [Act.eval, Act.put]) 29 [.slice Av (sgR sec 3 L1 m).length cv] (fun w => bs_sw _ _ _ w) ?_
            intro qb wb hq hbq hbn
            have HQb : Hid (Sl wb wb.heap.size 1 (some ⟨qb, 0, none⟩) 1 [.slice Av (sgR sec 3 L1 m).length cv]) := hbq.sl rfl (by omega) (fun j u h => h)
            have HWb := Lib.hid (HWa.out.later hbn); have HBb := Lib.hid (HBa.out.trans (hbn.mono HBa.out.size))
            clear hq hbq hbn HWa HBa
            go_wp2_with (at_builtin; refine stop_here2 ?_)
            refine StopD.go ?_
            obtain ⟨i0, z0', ii, ii0, ii1, ii2, ii3⟩ := bs_partsw
            have hvl := HSG1.out.len
            refine wpList_app _ rfl (.tmp 131) (.tmp 133) 33 rfl w.heap.size 29 i0 z0' 1 24 Tryd.underlying33 ii ii0 ii1 ii2 ii3 (by decide) _ _ _ rfl HWb.out.rt _ _ _ _ _ rfl HQb.out (by intro v hv; rw [List.mem_singleton] at hv; subst hv; rfl) (by unfold maxLen; omega) (by omega) HBb.out.size ?_
            intro tv' wc hown hg ha
            have HWc := Lib.hid (HWb.out.addT hown hg ha)
            have HBc := Lib.hid (grown_below HBb.out HWb.out.rt hg (Nat.le_refl _) HBb.out.size)
            clear hown hg ha HWb HBb HQb ii ii0 ii1 ii2 ii3
            have c8 := (HFA.out wc HBc.out).2
            have HSGc : Hid (Sgs sec L1 (ms ++ [m]) (vs ++ [.slice Av (sgR sec 3 L1 m).length cv]) ((.slice Av (sgR sec 3 L1 m).length cv, sgR sec 3 L1 m) :: (sv1, saveI sec 3 L1) :: Bs)) := (HSG1.out.more (fun p hp => by simp [hp])).snoc hm1 (by rw [← sgR_in H11.out hm1]; simp)
            go_wp2_with fail
            go_roundw
            case rel => exact ⟨i + 1, L1, g, b, V8, T, tlo, thi, ms ++ [m], _, _, hlt, h12, by go_num, rfl, by rw [List.length_append]; simp; omega, by simp, HWc, HSGc, HBc⟩
            case measure => simp [intOf]; omega
          · obtain rfl : E = 17 := by rw [← HE1.out]; exact resE_out (by rw [H11.out]; exact hm1)
            go_wp2_with fail
            refine (kleft_w HW8.out (by rw [← H11.out]; exact step_full HLE1.out (by rw [H11.out]; exact hm1))).mono ?_
            rintro e w9 ⟨rfl, hk9, hbn⟩
            have HW9 := Lib.hid hk9; have HB9 := Lib.hid (HB8.out.trans hbn)
            clear hk9 hbn HW8 HB8 c8
            have c8 := (HFA.out w9 HB9.out).2
            go_wp2_with fail
            go_roundw
            case rel => exact ⟨i + 1, L1, g, b, V8, T, tlo, thi, ms, vs, _, hlt, h12, by go_num, rfl, by have := HML.out; omega, by simp, HW9, Lib.hid (HSG1.out.more (fun p hp => by simp [hp])), HB9⟩
            case measure => simp [intOf]; omega
        · have hxa : (x != 1) = false := by rw [hx0]; rfl
          have hxb : (x == 1) = true := by rw [hx0]; rfl
          clear hx0
          go_wp2_with (with_reducible refine wpList_load_mid rfl 23 _ rfl fb (fo + i * 9) rfl (dl m) _ (HFA.out _ HB.out).1 Tryd.underlying23 rfl (hdg_size _ HMO.out) ?_)
          refine HRS.out.mono ?_
          rintro e w6 ⟨rfl, V6, hk6, hbn⟩
          have HW6 := Lib.hid hk6; have HB6 := Lib.hid (HB.out.trans hbn)
          clear hk6 hbn HRS HWL HB
          have c8 := (HFA.out w6 HB6.out).2
          go_wp2_with fail
          clear c8
          refine (kopen_w HW6.out (HSV.out) (HLE.out)).mono ?_
          rintro e wo ⟨go, bo, Vo, To, tloo, thio, rfl, hk9, hr9, hbn⟩
          have HWo := Lib.hid hk9; have HBo := Lib.hid (HB6.out.trans hbn); have HRo := Lib.hid hr9
          clear hk9 hbn hr9 HW6 HB6
          go_wp2_with fail
          go_roundw
          case rel => exact ⟨i + 1, L, go, bo, Vo, To, tloo, thio, ms, vs, Bs, hlt, h12, by go_num, rfl, by have := HML.out; omega, HSV.out, HWo, HSG, HBo⟩
          case measure => simp [intOf]; omega
        · have hxa : (x != 1) = true := by rw [hx0]; rfl
          have hxb : (x == 1) = false := by rw [hx0]; rfl
          have hxc : (x == 2) = true := by rw [hx0]; rfl
          clear hx0
          go_wp2_with (with_reducible refine wpList_load_mid rfl 23 _ rfl fb (fo + i * 9) rfl (dl m) _ (HFA.out _ HB.out).1 Tryd.underlying23 rfl (hdg_size _ HMO.out) ?_)
          refine HRS.out.mono ?_
          rintro e w6 ⟨rfl, V6, hk6, hbn⟩
          have HW6 := Lib.hid hk6; have HB6 := Lib.hid (HB.out.trans hbn)
          clear hk6 hbn HRS HWL HB
          have c8 := (HFA.out w6 HB6.out).2
          go_wp2_with fail
          refine (ksave_w HW6.out).mono ?_
          rintro e w7 ⟨sv1, rfl, hk7, hbn⟩
          have HW7 := Lib.hid hk7; have HB7 := Lib.hid (HB6.out.trans hbn)
          clear hk7 hbn HW6 HB6 c8
          have c8 := (HFA.out w7 HB7.out).2
          go_wp2_with fail
          clear c8
          refine (kopen_w HW7.out ((by simp)) (HLE1.out)).mono ?_
          rintro e wo ⟨go, bo, Vo, To, tloo, thio, rfl, hk9, hr9, hbn⟩
          have HWo := Lib.hid hk9; have HBo := Lib.hid (HB7.out.trans hbn); have HRo := Lib.hid hr9
          clear hk9 hbn hr9 HW7 HB7
          go_wp2_with fail
          go_roundw
          case rel => exact ⟨i + 1, L1, go, bo, Vo, To, tloo, thio, ms, vs, _, hlt, h12, by go_num, rfl, by have := HML.out; omega, by simp, HWo, Lib.hid (HSG1.out.more (fun p hp => by simp [hp])), HBo⟩
          case measure => simp [intOf]; omega
        · have hxa : (x != 1) = true := by rw [hx0]; rfl
          have hxb : (x == 1) = false := by rw [hx0]; rfl
          have hxc : (x == 2) = false := by rw [hx0]; rfl
          have hxd : (x == 3) = true := by rw [hx0]; rfl
          clear hx0
          go_wp2_with (with_reducible refine wpList_load_mid rfl 23 _ rfl fb (fo + i * 9) rfl (dl m) _ (HFA.out _ HB.out).1 Tryd.underlying23 rfl (hdg_size _ HMO.out) ?_)
          refine HRS.out.mono ?_
          rintro e w6 ⟨rfl, V6, hk6, hbn⟩
          have HW6 := Lib.hid hk6; have HB6 := Lib.hid (HB.out.trans hbn)
          clear hk6 hbn HRS HWL HB
          have c8 := (HFA.out w6 HB6.out).2
          go_wp2_with fail
          refine (ksave_w HW6.out).mono ?_
          rintro e w7 ⟨sv1, rfl, hk7, hbn⟩
          have HW7 := Lib.hid hk7; have HB7 := Lib.hid (HB6.out.trans hbn)
          clear hk7 hbn HW6 HB6 c8
          have c8 := (HFA.out w7 HB7.out).2
          go_wp2_with (with_reducible refine wpList_load_mid rfl 23 _ rfl fb (fo + i * 9) rfl (dl m) _ (HFA.out _ HB7.out).1 Tryd.underlying23 rfl (hdg_size _ HMO.out) ?_)
          clear c8
          refine (ksign_w HW7.out HMO.out H11.out HE1.out).mono ?_
          rintro e w8 ⟨v8, V8, rfl, hk8, hbn⟩
          have HW8 := Lib.hid hk8; have HB8 := Lib.hid (HB7.out.trans hbn)
          clear hk8 hbn HW7 HB7
          have c8 := (HFA.out w8 HB8.out).2
          by_cases hm1 : m ∈ L1
          · obtain rfl : E = 0 := by rw [← HE1.out]; exact resE_in (by rw [H11.out]; exact hm1)
            go_wp2_with (first
              | (with_reducible refine wpList_load_mid rfl 23 _ rfl fb (fo + i * 9) rfl (dl m) _ (HFA.out _ HB8.out).1 Tryd.underlying23 rfl (hdg_size _ HMO.out) ?_)
              | (with_reducible refine stop_bs2 32 _ _ rfl ?_))
            clear c8
            refine StopD.go ?_
            refine wpList_bsliceG2 rfl 32 1 _ rfl #[(0, .agg (dl m).toArray)] (by simp [Act.eval, Act.put]) 23 (dl m) (fun w => bs_dw HMO.out w) ?_
            intro q9 w9 hq hbq hbn
            have HQ9 : Hid (Sl w9 w9.heap.size 8 (some ⟨q9, 0, none⟩) 1 (dl m)) := hbq.sl (by rw [dl_len, HMO.out.len]) (by omega) (fun j u h => h)
            have HW9 := Lib.hid (HW8.out.later hbn); have HB9 := Lib.hid (HB8.out.trans (hbn.mono HB8.out.size))
            obtain ⟨Av, cv, hve, _, _⟩ := own_slw (HW9.out.bs (v8, sgR sec 3 L1 m) (by simp))
            simp only at hve
            subst hve
            clear hq hbq hbn HW8 HB8
            go_wp2_with (at_builtin; refine stop_here2 ?_)
            refine StopD.go ?_
            obtain ⟨i0, z0', ii, ii0, ii1, ii2, ii3⟩ := dg_partsw
            have hmll := HML.out
            refine wpList_app _ rfl (.tmp 123) (.tmp 129) 32 rfl w.heap.size 23 i0 z0' 8 8 Tryd.underlying32 ii ii0 ii1 ii2 ii3 (by decide) _ _ _ rfl HW9.out.rm _ _ _ _ _ rfl HQ9.out (dl_one' _) (by unfold maxLen; omega) (by omega) HB9.out.size ?_
            intro mv' wa hown hg ha
            have HWa := Lib.hid (HW9.out.addM HMO.out hown hg ha)
            have HBa := Lib.hid (grown_below HB9.out HW9.out.rm hg (Nat.le_refl _) HB9.out.size)
            clear hown hg ha HW9 HB9 HQ9 ii ii0 ii1 ii2 ii3
            go_wp2_with (with_reducible refine stop_bs2 33 _ _ rfl ?_)
            refine StopD.go ?_
            refine wpList_bsliceG2 rfl 33 1 _ rfl #[(0, .slice Av (sgR sec 3 L1 m).length cv)] (by simp [Act.eval, Act.put]) 29 [.slice Av (sgR sec 3 L1 m).length cv] (fun w => bs_sw _ _ _ w) ?_
            intro qb wb hq hbq hbn
            have HQb : Hid (Sl wb wb.heap.size 1 (some ⟨qb, 0, none⟩) 1 [.slice Av (sgR sec 3 L1 m).length cv]) := hbq.sl rfl (by omega) (fun j u h => h)
            have HWb := Lib.hid (HWa.out.later hbn); have HBb := Lib.hid (HBa.out.trans (hbn.mono HBa.out.size))
            clear hq hbq hbn HWa HBa
            go_wp2_with (at_builtin; refine stop_here2 ?_)
            refine StopD.go ?_
            obtain ⟨i0, z0', ii, ii0, ii1, ii2, ii3⟩ := bs_partsw
            have hvl := HSG1.out.len
            refine wpList_app _ rfl (.tmp 131) (.tmp 133) 33 rfl w.heap.size 29 i0 z0' 1 24 Tryd.underlying33 ii ii0 ii1 ii2 ii3 (by decide) _ _ _ rfl HWb.out.rt _ _ _ _ _ rfl HQb.out (by intro v hv; rw [List.mem_singleton] at hv; subst hv; rfl) (by unfold maxLen; omega) (by omega) HBb.out.size ?_
            intro tv' wc hown hg ha
            have HWc := Lib.hid (HWb.out.addT hown hg ha)
            have HBc := Lib.hid (grown_below HBb.out HWb.out.rt hg (Nat.le_refl _) HBb.out.size)
            clear hown hg ha HWb HBb HQb ii ii0 ii1 ii2 ii3
            have c8 := (HFA.out wc HBc.out).2
            have HSGc : Hid (Sgs sec L1 (ms ++ [m]) (vs ++ [.slice Av (sgR sec 3 L1 m).length cv]) ((.slice Av (sgR sec 3 L1 m).length cv, sgR sec 3 L1 m) :: (sv1, saveI sec 3 L1) :: Bs)) := (HSG1.out.more (fun p hp => by simp [hp])).snoc hm1 (by rw [← sgR_in H11.out hm1]; simp)
            go_wp2_with fail
            clear c8
            refine (kopen_w HWc.out ((by simp)) (HLE1.out)).mono ?_
            rintro e wo ⟨go, bo, Vo, To, tloo, thio, rfl, hk9, hr9, hbn⟩
            have HWo := Lib.hid hk9; have HBo := Lib.hid (HBc.out.trans hbn); have HRo := Lib.hid hr9
            clear hk9 hbn hr9 HWc HBc
            go_wp2_with fail
            refine (ksame_w HWo.out HRo.out).mono ?_
            rintro e ws ⟨rfl, hk9, hbn⟩
            have HWs := Lib.hid hk9; have HBs := Lib.hid (HBo.out.trans hbn)
            clear hk9 hbn HWo HBo HRo
            go_wp2_with fail
            go_roundw
            case rel => exact ⟨i + 1, L1, go, bo, Vo, To, tloo, thio, ms ++ [m], _, _, hlt, h12, by go_num, rfl, by rw [List.length_append]; simp; omega, by simp, HWs, HSGc, HBs⟩
            case measure => simp [intOf]; omega
          · obtain rfl : E = 17 := by rw [← HE1.out]; exact resE_out (by rw [H11.out]; exact hm1)
            go_wp2_with fail
            refine (kleft_w HW8.out (by rw [← H11.out]; exact step_full HLE1.out (by rw [H11.out]; exact hm1))).mono ?_
            rintro e w9 ⟨rfl, hk9, hbn⟩
            have HW9 := Lib.hid hk9; have HB9 := Lib.hid (HB8.out.trans hbn)
            clear hk9 hbn HW8 HB8 c8
            have c8 := (HFA.out w9 HB9.out).2
            go_wp2_with fail
            clear c8
            refine (kopen_w HW9.out ((by simp)) (HLE1.out)).mono ?_
            rintro e wo ⟨go, bo, Vo, To, tloo, thio, rfl, hk9, hr9, hbn⟩
            have HWo := Lib.hid hk9; have HBo := Lib.hid (HB9.out.trans hbn); have HRo := Lib.hid hr9
            clear hk9 hbn hr9 HW9 HB9
            go_wp2_with fail
            refine (ksame_w HWo.out HRo.out).mono ?_
            rintro e ws ⟨rfl, hk9, hbn⟩
            have HWs := Lib.hid hk9; have HBs := Lib.hid (HBo.out.trans hbn)
            clear hk9 hbn HWo HBo HRo
            go_wp2_with fail
            go_roundw
            case rel => exact ⟨i + 1, L1, go, bo, Vo, To, tloo, thio, ms, vs, _, hlt, h12, by go_num, rfl, by have := HML.out; omega, by simp, HWs, Lib.hid (HSG1.out.more (fun p hp => by simp [hp])), HBs⟩
            case measure => simp [intOf]; omega
      · have hki : (i : Int) < n := by omega
        have hk12 : ¬ (i : Int) < 12 := by omega
        have hk0 : (0 : Int) ≤ i := by omega
        clear hlt h12 hsv
        go_wp2_with fail
        obtain ⟨Am, cm, hme⟩ := own_form HWL.out.rm
        obtain ⟨At, ct, hte⟩ := own_form HWL.out.rt
        subst hme hte
        have hvl := HSG.out.len
        rw [hvl] at HWL ⊢
        obtain ⟨N, hN⟩ : ∃ N, ms.length = N := ⟨_, rfl⟩
        rw [hN] at HWL ⊢
        rw [hN] at hml
        have HNN := Lib.hid hN; have hN12 : N ≤ 12 := by omega
        have HLED := Lib.hid HWL.out.ring.led_ok
        clear hvl hN hml hi hi12 hnl
        go_loopw [21] (fun jv wr => ∃ j : Nat, j ≤ N ∧ jv = .int .i64 j ∧ Hid (Wl wr w.heap.size sec L g b V T tlo thi g5 R (.slice Am N cm) ms (.slice At N ct) vs Bs) ∧ Hid (Below w.heap.size w wr)) (fun jv _ => N - (intOf jv).toNat)
        case atStart => exact ⟨0, Nat.zero_le _, rfl, HWL, HB⟩
        case round =>
          obtain ⟨j, hj, rfl, HWj, HBj⟩ := hrel
          by_cases hlj : j < N
          · have hjN : (j : Int) < N := by omega
            have hj0 : (0 : Int) ≤ j := by omega
            obtain ⟨⟨bm, om, rfl⟩, ⟨bt, ot, rfl⟩⟩ := spots HWj.out HSG.out HNN.out (by omega)
            obtain ⟨mj, hmj⟩ : ∃ m, ms[j]? = some m := ⟨ms[j]'(by rw [HNN.out]; exact hlj), List.getElem?_eq_getElem _⟩
            have HMJ : Hid (mj ∈ L) := HSG.out.inL _ (List.mem_of_getElem? hmj)
            have HMO : Hid (DgOk mj) := HWj.out.mo _ (List.mem_of_getElem? hmj)
            obtain ⟨Aj, cj, hse, hcj⟩ := seen_of HWj.out HSG.out HNN.out hmj
            have HIX := Lib.hid (fun w' hs => kidx_sg w' (sec := sec) HLED.out (by omega) HMJ.out Aj _ cj hs hcj)
            have HVE := Lib.hid (fun w' hs => kver_sg w' (sec := sec) HLED.out (by omega) HMJ.out R mj HPO.out HMO.out Aj _ cj hs hcj)
            have hvt := ver_sg (sec := sec) HLED.out (by omega) HMJ.out HMO.out
            rw [HRE.out] at hvt
            rw [hvt] at HVE
            have HIE := Lib.hid (fun a (ha : a ∈ L) => idx_eq HMJ.out ha)
            have HSE := Lib.hid (fun a (ha : a ∈ L) => sg_eq (sec := sec) HLED.out HMJ.out ha)
            obtain ⟨Sj, hSj⟩ : ∃ x, sgI sec 3 L mj = x := ⟨_, rfl⟩
            rw [hSj] at hse HIX HVE HSE hcj
            obtain ⟨nj, hnj⟩ : ∃ x, Sj.length = x := ⟨_, rfl⟩
            rw [hnj] at hse HIX HVE hcj
            obtain ⟨Ij, hIj⟩ : ∃ x, L.idxOf mj = x := ⟨_, rfl⟩
            rw [hIj] at HIX HIE
            have HSN := Lib.hid hse
            have ce := hse.ce
            clear hmj hvt hSj hnj hIj hse hcj
            go_wp2_with fail
            refine (HIX.out wr HSN.out.sl).mono ?_
            rintro e wa ⟨rfl, hbn⟩
            have HWa := Lib.hid (HWj.out.later hbn); have HSa := Lib.hid (HSN.out.later hbn); have HBa := Lib.hid (HBj.out.trans (hbn.mono HBj.out.size))
            clear hbn ce HWj HSN HBj HIX
            go_wp2_with fail
            obtain ⟨za, hza⟩ : ∃ x, wa.heap.size = x := ⟨_, rfl⟩
            have HZA := Lib.hid hza
            rw [hza] at HSa
            have hbd : Below za wa wa.drew := hza ▸ below_draws wa wa.heap.size 1
            refine wp_region_held_drew (S := fun w' => Bk w' g5 23 (dl R) ∧ Seen w' za bm om bt ot j mj (.slice Aj nj cj) Aj nj Sj) (by kernel_rfl) ⟨Bk.drew HWa.out.pb, HSa.out.below hbd⟩ (fun hHeld => ?_)
            obtain ⟨wb, hwb⟩ : ∃ x, wa.drew = x := ⟨_, rfl⟩
            rw [hwb] at hbd hHeld ⊢
            have HWb := Lib.hid (HWa.out.later (hza ▸ hbd)); have HSb := Lib.hid (HSa.out.later' hza hbd); have HBb := Lib.hid (HBa.out.trans (hbd.mono (hza ▸ HBa.out.size)))
            have HZB : Hid (za ≤ wb.heap.size) := by show za ≤ _; rw [← hza]; exact hbd.size
            clear hwb hza hbd HWa HSa HBa
            refine wpAnyH_take (i := 0) (v := ?_) rfl (by kernel_rfl) (by kernel_rfl) (by kernel_rfl) (fun _ _ _ h => h) (Or.inl ⟨by rfl, ?_⟩) (by assumption) ?_
            rotate_left
            · intro w hSw
              (try dsimp only at hSw)
              go_simp
              try with_reducible rfl
            try simp only [Act.put, List.setIfInBounds_toArray, List.set_cons_zero, List.set_cons_succ, List.getElem_toArray, List.getElem_cons_zero, List.getElem_cons_succ]
            refine wpAnyH_take (i := 1) (v := ?_) rfl (by kernel_rfl) (by kernel_rfl) (by kernel_rfl) (fun _ _ _ h => h) (Or.inl ⟨by rfl, ?_⟩) (by assumption) ?_
            rotate_left
            · intro w hSw
              (try dsimp only at hSw)
              go_simp
              try with_reducible rfl
            try simp only [Act.put, List.setIfInBounds_toArray, List.set_cons_zero, List.set_cons_succ, List.getElem_toArray, List.getElem_cons_zero, List.getElem_cons_succ]
            refine wpAnyH_take (i := 2) (v := ?_) rfl (by kernel_rfl) (by kernel_rfl) (by kernel_rfl) (fun _ _ _ h => h) (Or.inl ⟨by rfl, ?_⟩) (by assumption) ?_
            rotate_left
            · intro w hSw
              (try dsimp only at hSw)
              go_simp
              try with_reducible rfl
            try simp only [Act.put, List.setIfInBounds_toArray, List.set_cons_zero, List.set_cons_succ, List.getElem_toArray, List.getElem_cons_zero, List.getElem_cons_succ]
            refine wpAnyH_take (i := 3) (v := .agg (List.toArray (dl R))) rfl (by kernel_rfl) (by kernel_rfl) (by kernel_rfl) (fun _ _ _ h => h) (yieldsIf_load_mid (by rfl) _ _ rfl _ _ rfl (dl R) _ (fun w hSw => (Bk.range (pre := []) (post := []) (by simpa using hSw.1) rfl)) Tryd.underlying23 rfl (hdg_size _ HPO.out)) (by assumption) ?_
            try simp only [Act.put, List.setIfInBounds_toArray, List.set_cons_zero, List.set_cons_succ, List.getElem_toArray, List.getElem_cons_zero, List.getElem_cons_succ]
            refine wpAnyH_take (i := 4) (v := ?_) rfl (by kernel_rfl) (by kernel_rfl) (by kernel_rfl) (fun _ _ _ h => h) (Or.inl ⟨by rfl, ?_⟩) (by assumption) ?_
            rotate_left
            · intro w hSw
              (try dsimp only at hSw)
              go_simp
              try with_reducible rfl
            try simp only [Act.put, List.setIfInBounds_toArray, List.set_cons_zero, List.set_cons_succ, List.getElem_toArray, List.getElem_cons_zero, List.getElem_cons_succ]
            refine wpAnyH_take (i := 5) (v := ?_) rfl (by kernel_rfl) (by kernel_rfl) (by kernel_rfl) (fun _ _ _ h => h) (Or.inl ⟨by rfl, ?_⟩) (by assumption) ?_
            rotate_left
            · intro w hSw
              (try dsimp only at hSw)
              go_simp
              try with_reducible rfl
            try simp only [Act.put, List.setIfInBounds_toArray, List.set_cons_zero, List.set_cons_succ, List.getElem_toArray, List.getElem_cons_zero, List.getElem_cons_succ]
            refine wpAnyH_take (i := 8) (v := ?_) rfl (by kernel_rfl) (by kernel_rfl) (by kernel_rfl) (fun _ _ _ h => h) (Or.inl ⟨by rfl, ?_⟩) (by assumption) ?_
            rotate_left
            · intro w hSw
              (try dsimp only at hSw)
              go_simp
              try with_reducible rfl
            try simp only [Act.put, List.setIfInBounds_toArray, List.set_cons_zero, List.set_cons_succ, List.getElem_toArray, List.getElem_cons_zero, List.getElem_cons_succ]
            refine wpAnyH_take (i := 9) (v := ?_) rfl (by kernel_rfl) (by kernel_rfl) (by kernel_rfl) (fun _ _ _ h => h) (Or.inl ⟨by rfl, ?_⟩) (by assumption) ?_
            rotate_left
            · intro w hSw
              (try dsimp only at hSw)
              go_simp
              try with_reducible rfl
            try simp only [Act.put, List.setIfInBounds_toArray, List.set_cons_zero, List.set_cons_succ, List.getElem_toArray, List.getElem_cons_zero, List.getElem_cons_succ]
            refine wpAnyH_take (i := 6) (v := ?_) rfl (by kernel_rfl) (by kernel_rfl) (by kernel_rfl) (fun _ _ _ h => h) (Or.inl ⟨by rfl, ?_⟩) (by assumption) ?_
            rotate_left
            · intro w hSw
              (try dsimp only at hSw)
              go_simp
              try with_reducible rfl
            try simp only [Act.put, List.setIfInBounds_toArray, List.set_cons_zero, List.set_cons_succ, List.getElem_toArray, List.getElem_cons_zero, List.getElem_cons_succ]
            refine wpAnyH_take (i := 10) (v := ?_) rfl (by kernel_rfl) (by kernel_rfl) (by kernel_rfl) (fun _ _ _ h => h) (Or.inl ⟨by rfl, ?_⟩) (by assumption) ?_
            rotate_left
            · intro w hSw
              (try dsimp only at hSw)
              go_simp
              try with_reducible rfl
            try simp only [Act.put, List.setIfInBounds_toArray, List.set_cons_zero, List.set_cons_succ, List.getElem_toArray, List.getElem_cons_zero, List.getElem_cons_succ]
            refine wpAnyH_take (i := 7) (v := .agg (List.toArray (dl mj))) rfl (by kernel_rfl) (by kernel_rfl) (by kernel_rfl) (fun _ _ _ h => h) (yieldsIf_load_mid (by rfl) _ _ rfl _ _ rfl (dl mj) _ (fun w hSw => hSw.2.rg) Tryd.underlying23 rfl (hdg_size _ HMO.out)) (by assumption) ?_
            try simp only [Act.put, List.setIfInBounds_toArray, List.set_cons_zero, List.set_cons_succ, List.getElem_toArray, List.getElem_cons_zero, List.getElem_cons_succ]
            refine wpAnyH_take (i := 11) (v := ?_) rfl (by kernel_rfl) (by kernel_rfl) (by kernel_rfl) (fun _ _ _ h => h) (Or.inl ⟨by rfl, ?_⟩) (by assumption) ?_
            rotate_left
            · intro w hSw
              have hcell := hSw.2.ce
              clear hSw
              go_simp
              try with_reducible rfl
            try simp only [Act.put, List.setIfInBounds_toArray, List.set_cons_zero, List.set_cons_succ, List.getElem_toArray, List.getElem_cons_zero, List.getElem_cons_succ]
            refine wpAnyH_ready (rs := [12]) (by kernel_rfl) (by simp) ?_
            refine AllReadyH.cons rfl (fun K hK => ?_) AllReadyH.nil
            go_simp
            (refine (HVE.out wb HSb.out.sl).mono ?_; rintro e wc ⟨rfl, hbn⟩; have HWc := Lib.hid (HWb.out.later hbn); have HSc := Lib.hid (HSb.out.later hbn); have HBc := Lib.hid (HBb.out.trans (hbn.mono HBb.out.size)); have hsw : Seen wc za bm om bt ot j mj (.slice Aj nj cj) Aj nj Sj := (hHeld.2.below (hbn.mono HZB.out)); clear hbn HWb HSb HBb)
            refine hK.out _ _ (⟨HWc.out.pb, hsw⟩) (fun hHeld => ?_)
            clear hK K
            try simp only [Act.put, List.setIfInBounds_toArray, List.set_cons_zero, List.set_cons_succ, List.getElem_toArray, List.getElem_cons_zero, List.getElem_cons_succ]
            clear hsw
            refine wpAnyH_take (i := 13) (v := ?_) rfl (by kernel_rfl) (by kernel_rfl) (by kernel_rfl) (fun _ _ _ h => h) (Or.inl ⟨by rfl, ?_⟩) (by assumption) ?_
            rotate_left
            · intro w hSw
              (try dsimp only at hSw)
              go_simp
              try with_reducible rfl
            try simp only [Act.put, List.setIfInBounds_toArray, List.set_cons_zero, List.set_cons_succ, List.getElem_toArray, List.getElem_cons_zero, List.getElem_cons_succ]
            refine wpAnyH_take (i := 14) (v := ?_) rfl (by kernel_rfl) (by kernel_rfl) (by kernel_rfl) (fun _ _ _ h => h) (Or.inl ⟨by rfl, ?_⟩) (by assumption) ?_
            rotate_left
            · intro w hSw
              (try dsimp only at hSw)
              go_simp
              try with_reducible rfl
            try simp only [Act.put, List.setIfInBounds_toArray, List.set_cons_zero, List.set_cons_succ, List.getElem_toArray, List.getElem_cons_zero, List.getElem_cons_succ]
            refine wpAnyH_done (by kernel_rfl) ?_ _
            clear hHeld HVE HZB
            go_wp2_with fail
            go_loopw [24] (fun kv wr => ∃ k : Nat, k ≤ j ∧ kv = .int .i64 k ∧ Hid (Wl wr w.heap.size sec L g b V T tlo thi g5 R (.slice (some ⟨bm, om, none⟩) N cm) ms (.slice (some ⟨bt, ot, none⟩) N ct) vs Bs) ∧ Hid (Seen wr wr.heap.size bm om bt ot j mj (.slice Aj nj cj) Aj nj Sj) ∧ Hid (Below w.heap.size w wr)) (fun kv _ => j - (intOf kv).toNat)
            case atStart => exact ⟨0, Nat.zero_le _, rfl, HWc, HSc, HBc⟩
            case round =>
              obtain ⟨k, hk, rfl, HWk, HSj, HBk⟩ := hrel
              by_cases hlk : k < j
              · have hkj : (k : Int) < j := by omega
                have hkN : (k : Int) < N := by omega
                have hk0 : (0 : Int) ≤ k := by omega
                obtain ⟨mk, hmk⟩ : ∃ m, ms[k]? = some m := ⟨ms[k]'(by rw [HNN.out]; omega), List.getElem?_eq_getElem _⟩
                have HMK : Hid (mk ∈ L) := HSG.out.inL _ (List.mem_of_getElem? hmk)
                have HMKO : Hid (DgOk mk) := HWk.out.mo _ (List.mem_of_getElem? hmk)
                obtain ⟨Ak, ck, hse, hck⟩ := seen_of HWk.out HSG.out HNN.out hmk
                have HIX := Lib.hid (fun w' hs => kidx_sg w' (sec := sec) HLED.out (by omega) HMK.out Ak _ ck hs hck)
                have hie := HIE.out mk HMK.out
                have hsq := HSE.out mk HMK.out
                have hdq := dg_eqw mj mk HMO.out HMKO.out
                obtain ⟨q, hq⟩ : ∃ q, eqL mj mk = q := ⟨_, rfl⟩
                rw [hq] at hie hsq hdq
                obtain ⟨Sk, hSk⟩ : ∃ x, sgI sec 3 L mk = x := ⟨_, rfl⟩
                rw [hSk] at hse HIX hck hsq
                obtain ⟨nk, hnk⟩ : ∃ x, Sk.length = x := ⟨_, rfl⟩
                rw [hnk] at hse HIX hck
                obtain ⟨Ik, hIk⟩ : ∃ x, L.idxOf mk = x := ⟨_, rfl⟩
                rw [hIk] at HIX hie
                have HIE2 := Lib.hid hie; have HSQ := Lib.hid hsq; have HDQ := Lib.hid hdq
                have HSk := Lib.hid hse
                have ce := hse.ce
                clear hmk hSk hnk hIk hse hck hq hie hsq hdq
                go_wp2_with fail
                refine (HIX.out wr HSk.out.sl).mono ?_
                rintro e wa ⟨rfl, hbn⟩
                have HWa := Lib.hid (HWk.out.later hbn); have HSja := Lib.hid (HSj.out.later hbn); have HSka := Lib.hid (HSk.out.later hbn); have HBa := Lib.hid (HBk.out.trans (hbn.mono HBk.out.size))
                clear hbn ce HWk HSj HSk HBk HIX
                go_wp2_with fail
                obtain ⟨za, hza⟩ : ∃ x, wa.heap.size = x := ⟨_, rfl⟩
                rw [hza] at HSja HSka
                have hbd : Below za wa wa.drew := hza ▸ below_draws wa wa.heap.size 1
                refine wp_region_held_drew (S := fun w' => Seen w' za bm om bt ot j mj (.slice Aj nj cj) Aj nj Sj ∧ Seen w' za bm om bt ot k mk (.slice Ak nk ck) Ak nk Sk) (by kernel_rfl) ⟨HSja.out.below hbd, HSka.out.below hbd⟩ (fun hHeld => ?_)
                obtain ⟨wb, hwb⟩ : ∃ x, wa.drew = x := ⟨_, rfl⟩
                rw [hwb] at hbd hHeld ⊢
                have HWb := Lib.hid (HWa.out.later (hza ▸ hbd)); have HSjb := Lib.hid (HSja.out.later' hza hbd); have HBb := Lib.hid (HBa.out.trans (hbd.mono (hza ▸ HBa.out.size)))
                clear hwb hza hbd HWa HSja HSka HBa
                have hie1 := HIE2.out
                have hie2 : decide ((Ij : Int) = Ik) = q := by rw [← hie1]; simp; omega
                have hie3 : ((Ij : Int) == Ik) = q := by rw [← hie2]; rfl
                refine wpAnyH_take (i := 0) (v := ?_) rfl (by kernel_rfl) (by kernel_rfl) (by kernel_rfl) (fun _ _ _ h => h) (Or.inl ⟨by rfl, ?_⟩) (by assumption) ?_
                rotate_left
                · intro w hSw
                  (try dsimp only at hSw)
                  go_simp
                  try with_reducible rfl
                try simp only [Act.put, List.setIfInBounds_toArray, List.set_cons_zero, List.set_cons_succ, List.getElem_toArray, List.getElem_cons_zero, List.getElem_cons_succ]
                refine wpAnyH_take (i := 1) (v := ?_) rfl (by kernel_rfl) (by kernel_rfl) (by kernel_rfl) (fun _ _ _ h => h) (Or.inl ⟨by rfl, ?_⟩) (by assumption) ?_
                rotate_left
                · intro w hSw
                  (try dsimp only at hSw)
                  go_simp
                  try with_reducible rfl
                try simp only [Act.put, List.setIfInBounds_toArray, List.set_cons_zero, List.set_cons_succ, List.getElem_toArray, List.getElem_cons_zero, List.getElem_cons_succ]
                refine wpAnyH_take (i := 3) (v := ?_) rfl (by kernel_rfl) (by kernel_rfl) (by kernel_rfl) (fun _ _ _ h => h) (Or.inl ⟨by rfl, ?_⟩) (by assumption) ?_
                rotate_left
                · intro w hSw
                  (try dsimp only at hSw)
                  go_simp
                  try with_reducible rfl
                try simp only [Act.put, List.setIfInBounds_toArray, List.set_cons_zero, List.set_cons_succ, List.getElem_toArray, List.getElem_cons_zero, List.getElem_cons_succ]
                refine wpAnyH_take (i := 4) (v := ?_) rfl (by kernel_rfl) (by kernel_rfl) (by kernel_rfl) (fun _ _ _ h => h) (Or.inl ⟨by rfl, ?_⟩) (by assumption) ?_
                rotate_left
                · intro w hSw
                  (try dsimp only at hSw)
                  go_simp
                  try with_reducible rfl
                try simp only [Act.put, List.setIfInBounds_toArray, List.set_cons_zero, List.set_cons_succ, List.getElem_toArray, List.getElem_cons_zero, List.getElem_cons_succ]
                refine wpAnyH_take (i := 7) (v := ?_) rfl (by kernel_rfl) (by kernel_rfl) (by kernel_rfl) (fun _ _ _ h => h) (Or.inl ⟨by rfl, ?_⟩) (by assumption) ?_
                rotate_left
                · intro w hSw
                  (try dsimp only at hSw)
                  go_simp
                  try with_reducible rfl
                try simp only [Act.put, List.setIfInBounds_toArray, List.set_cons_zero, List.set_cons_succ, List.getElem_toArray, List.getElem_cons_zero, List.getElem_cons_succ]
                refine wpAnyH_take (i := 8) (v := ?_) rfl (by kernel_rfl) (by kernel_rfl) (by kernel_rfl) (fun _ _ _ h => h) (Or.inl ⟨by rfl, ?_⟩) (by assumption) ?_
                rotate_left
                · intro w hSw
                  (try dsimp only at hSw)
                  go_simp
                  try with_reducible rfl
                try simp only [Act.put, List.setIfInBounds_toArray, List.set_cons_zero, List.set_cons_succ, List.getElem_toArray, List.getElem_cons_zero, List.getElem_cons_succ]
                refine wpAnyH_take (i := 2) (v := ?_) rfl (by kernel_rfl) (by kernel_rfl) (by kernel_rfl) (fun _ _ _ h => h) (Or.inl ⟨by rfl, ?_⟩) (by assumption) ?_
                rotate_left
                · intro w hSw
                  (try dsimp only at hSw)
                  go_simp
                  try with_reducible rfl
                try simp only [Act.put, List.setIfInBounds_toArray, List.set_cons_zero, List.set_cons_succ, List.getElem_toArray, List.getElem_cons_zero, List.getElem_cons_succ]
                clear hie1 hie2 hie3
                refine wpAnyH_take (i := 5) (v := ?_) rfl (by kernel_rfl) (by kernel_rfl) (by kernel_rfl) (fun _ _ _ h => h) (Or.inl ⟨by rfl, ?_⟩) (by assumption) ?_
                rotate_left
                · intro w hSw
                  (try dsimp only at hSw)
                  go_simp
                  try with_reducible rfl
                try simp only [Act.put, List.setIfInBounds_toArray, List.set_cons_zero, List.set_cons_succ, List.getElem_toArray, List.getElem_cons_zero, List.getElem_cons_succ]
                refine wpAnyH_take (i := 9) (v := ?_) rfl (by kernel_rfl) (by kernel_rfl) (by kernel_rfl) (fun _ _ _ h => h) (Or.inl ⟨by rfl, ?_⟩) (by assumption) ?_
                rotate_left
                · intro w hSw
                  (try dsimp only at hSw)
                  go_simp
                  try with_reducible rfl
                try simp only [Act.put, List.setIfInBounds_toArray, List.set_cons_zero, List.set_cons_succ, List.getElem_toArray, List.getElem_cons_zero, List.getElem_cons_succ]
                refine wpAnyH_take (i := 6) (v := .agg (List.toArray (dl mj))) rfl (by kernel_rfl) (by kernel_rfl) (by kernel_rfl) (fun _ _ _ h => h) (yieldsIf_load_mid (by rfl) _ _ rfl _ _ rfl (dl mj) _ (fun w hSw => hSw.1.rg) Tryd.underlying23 rfl (hdg_size _ HMO.out)) (by assumption) ?_
                try simp only [Act.put, List.setIfInBounds_toArray, List.set_cons_zero, List.set_cons_succ, List.getElem_toArray, List.getElem_cons_zero, List.getElem_cons_succ]
                refine wpAnyH_take (i := 10) (v := .agg (List.toArray (dl mk))) rfl (by kernel_rfl) (by kernel_rfl) (by kernel_rfl) (fun _ _ _ h => h) (yieldsIf_load_mid (by rfl) _ _ rfl _ _ rfl (dl mk) _ (fun w hSw => hSw.2.rg) Tryd.underlying23 rfl (hdg_size _ HMKO.out)) (by assumption) ?_
                try simp only [Act.put, List.setIfInBounds_toArray, List.set_cons_zero, List.set_cons_succ, List.getElem_toArray, List.getElem_cons_zero, List.getElem_cons_succ]
                have hdq := HDQ.out
                refine wpAnyH_take (i := 11) (v := ?_) rfl (by kernel_rfl) (by kernel_rfl) (by kernel_rfl) (fun _ _ _ h => h) (Or.inl ⟨by rfl, ?_⟩) (by assumption) ?_
                rotate_left
                · intro w hSw
                  (try dsimp only at hSw)
                  go_simp
                  try with_reducible rfl
                try simp only [Act.put, List.setIfInBounds_toArray, List.set_cons_zero, List.set_cons_succ, List.getElem_toArray, List.getElem_cons_zero, List.getElem_cons_succ]
                clear hdq
                refine wpAnyH_take (i := 12) (v := ?_) rfl (by kernel_rfl) (by kernel_rfl) (by kernel_rfl) (fun _ _ _ h => h) (Or.inl ⟨by rfl, ?_⟩) (by assumption) ?_
                rotate_left
                · intro w hSw
                  (try dsimp only at hSw)
                  go_simp
                  try with_reducible rfl
                try simp only [Act.put, List.setIfInBounds_toArray, List.set_cons_zero, List.set_cons_succ, List.getElem_toArray, List.getElem_cons_zero, List.getElem_cons_succ]
                refine wpAnyH_take (i := 13) (v := ?_) rfl (by kernel_rfl) (by kernel_rfl) (by kernel_rfl) (fun _ _ _ h => h) (Or.inl ⟨by rfl, ?_⟩) (by assumption) ?_
                rotate_left
                · intro w hSw
                  (try dsimp only at hSw)
                  go_simp
                  try with_reducible rfl
                try simp only [Act.put, List.setIfInBounds_toArray, List.set_cons_zero, List.set_cons_succ, List.getElem_toArray, List.getElem_cons_zero, List.getElem_cons_succ]
                refine wpAnyH_take (i := 14) (v := ?_) rfl (by kernel_rfl) (by kernel_rfl) (by kernel_rfl) (fun _ _ _ h => h) (Or.inl ⟨by rfl, ?_⟩) (by assumption) ?_
                rotate_left
                · intro w hSw
                  (try dsimp only at hSw)
                  go_simp
                  try with_reducible rfl
                try simp only [Act.put, List.setIfInBounds_toArray, List.set_cons_zero, List.set_cons_succ, List.getElem_toArray, List.getElem_cons_zero, List.getElem_cons_succ]
                refine wpAnyH_take (i := 15) (v := ?_) rfl (by kernel_rfl) (by kernel_rfl) (by kernel_rfl) (fun _ _ _ h => h) (Or.inl ⟨by rfl, ?_⟩) (by assumption) ?_
                rotate_left
                · intro w hSw
                  (try dsimp only at hSw)
                  go_simp
                  try with_reducible rfl
                try simp only [Act.put, List.setIfInBounds_toArray, List.set_cons_zero, List.set_cons_succ, List.getElem_toArray, List.getElem_cons_zero, List.getElem_cons_succ]
                refine wpAnyH_take (i := 18) (v := ?_) rfl (by kernel_rfl) (by kernel_rfl) (by kernel_rfl) (fun _ _ _ h => h) (Or.inl ⟨by rfl, ?_⟩) (by assumption) ?_
                rotate_left
                · intro w hSw
                  (try dsimp only at hSw)
                  go_simp
                  try with_reducible rfl
                try simp only [Act.put, List.setIfInBounds_toArray, List.set_cons_zero, List.set_cons_succ, List.getElem_toArray, List.getElem_cons_zero, List.getElem_cons_succ]
                refine wpAnyH_take (i := 19) (v := ?_) rfl (by kernel_rfl) (by kernel_rfl) (by kernel_rfl) (fun _ _ _ h => h) (Or.inl ⟨by rfl, ?_⟩) (by assumption) ?_
                rotate_left
                · intro w hSw
                  (try dsimp only at hSw)
                  go_simp
                  try with_reducible rfl
                try simp only [Act.put, List.setIfInBounds_toArray, List.set_cons_zero, List.set_cons_succ, List.getElem_toArray, List.getElem_cons_zero, List.getElem_cons_succ]
                refine wpAnyH_take (i := 23) (v := ?_) rfl (by kernel_rfl) (by kernel_rfl) (by kernel_rfl) (fun _ _ _ h => h) (Or.inl ⟨by rfl, ?_⟩) (by assumption) ?_
                rotate_left
                · intro w hSw
                  (try dsimp only at hSw)
                  go_simp
                  try with_reducible rfl
                try simp only [Act.put, List.setIfInBounds_toArray, List.set_cons_zero, List.set_cons_succ, List.getElem_toArray, List.getElem_cons_zero, List.getElem_cons_succ]
                refine wpAnyH_take (i := 24) (v := ?_) rfl (by kernel_rfl) (by kernel_rfl) (by kernel_rfl) (fun _ _ _ h => h) (Or.inl ⟨by rfl, ?_⟩) (by assumption) ?_
                rotate_left
                · intro w hSw
                  (try dsimp only at hSw)
                  go_simp
                  try with_reducible rfl
                try simp only [Act.put, List.setIfInBounds_toArray, List.set_cons_zero, List.set_cons_succ, List.getElem_toArray, List.getElem_cons_zero, List.getElem_cons_succ]
                refine wpAnyH_take (i := 28) (v := ?_) rfl (by kernel_rfl) (by kernel_rfl) (by kernel_rfl) (fun _ _ _ h => h) (Or.inl ⟨by rfl, ?_⟩) (by assumption) ?_
                rotate_left
                · intro w hSw
                  (try dsimp only at hSw)
                  go_simp
                  try with_reducible rfl
                try simp only [Act.put, List.setIfInBounds_toArray, List.set_cons_zero, List.set_cons_succ, List.getElem_toArray, List.getElem_cons_zero, List.getElem_cons_succ]
                refine wpAnyH_take (i := 29) (v := ?_) rfl (by kernel_rfl) (by kernel_rfl) (by kernel_rfl) (fun _ _ _ h => h) (Or.inl ⟨by rfl, ?_⟩) (by assumption) ?_
                rotate_left
                · intro w hSw
                  (try dsimp only at hSw)
                  go_simp
                  try with_reducible rfl
                try simp only [Act.put, List.setIfInBounds_toArray, List.set_cons_zero, List.set_cons_succ, List.getElem_toArray, List.getElem_cons_zero, List.getElem_cons_succ]
                refine wpAnyH_take (i := 16) (v := ?_) rfl (by kernel_rfl) (by kernel_rfl) (by kernel_rfl) (fun _ _ _ h => h) (Or.inl ⟨by rfl, ?_⟩) (by assumption) ?_
                rotate_left
                · intro w hSw
                  (try dsimp only at hSw)
                  go_simp
                  try with_reducible rfl
                try simp only [Act.put, List.setIfInBounds_toArray, List.set_cons_zero, List.set_cons_succ, List.getElem_toArray, List.getElem_cons_zero, List.getElem_cons_succ]
                refine wpAnyH_take (i := 20) (v := ?_) rfl (by kernel_rfl) (by kernel_rfl) (by kernel_rfl) (fun _ _ _ h => h) (Or.inl ⟨by rfl, ?_⟩) (by assumption) ?_
                rotate_left
                · intro w hSw
                  (try dsimp only at hSw)
                  go_simp
                  try with_reducible rfl
                try simp only [Act.put, List.setIfInBounds_toArray, List.set_cons_zero, List.set_cons_succ, List.getElem_toArray, List.getElem_cons_zero, List.getElem_cons_succ]
                refine wpAnyH_take (i := 25) (v := ?_) rfl (by kernel_rfl) (by kernel_rfl) (by kernel_rfl) (fun _ _ _ h => h) (Or.inl ⟨by rfl, ?_⟩) (by assumption) ?_
                rotate_left
                · intro w hSw
                  (try dsimp only at hSw)
                  go_simp
                  try with_reducible rfl
                try simp only [Act.put, List.setIfInBounds_toArray, List.set_cons_zero, List.set_cons_succ, List.getElem_toArray, List.getElem_cons_zero, List.getElem_cons_succ]
                refine wpAnyH_take (i := 30) (v := ?_) rfl (by kernel_rfl) (by kernel_rfl) (by kernel_rfl) (fun _ _ _ h => h) (Or.inl ⟨by rfl, ?_⟩) (by assumption) ?_
                rotate_left
                · intro w hSw
                  (try dsimp only at hSw)
                  go_simp
                  try with_reducible rfl
                try simp only [Act.put, List.setIfInBounds_toArray, List.set_cons_zero, List.set_cons_succ, List.getElem_toArray, List.getElem_cons_zero, List.getElem_cons_succ]
                refine wpAnyH_take (i := 17) (v := .agg (List.toArray (dl mj))) rfl (by kernel_rfl) (by kernel_rfl) (by kernel_rfl) (fun _ _ _ h => h) (yieldsIf_load_mid (by rfl) _ _ rfl _ _ rfl (dl mj) _ (fun w hSw => hSw.1.rg) Tryd.underlying23 rfl (hdg_size _ HMO.out)) (by assumption) ?_
                try simp only [Act.put, List.setIfInBounds_toArray, List.set_cons_zero, List.set_cons_succ, List.getElem_toArray, List.getElem_cons_zero, List.getElem_cons_succ]
                refine wpAnyH_take (i := 21) (v := .agg (List.toArray (dl mk))) rfl (by kernel_rfl) (by kernel_rfl) (by kernel_rfl) (fun _ _ _ h => h) (yieldsIf_load_mid (by rfl) _ _ rfl _ _ rfl (dl mk) _ (fun w hSw => hSw.2.rg) Tryd.underlying23 rfl (hdg_size _ HMKO.out)) (by assumption) ?_
                try simp only [Act.put, List.setIfInBounds_toArray, List.set_cons_zero, List.set_cons_succ, List.getElem_toArray, List.getElem_cons_zero, List.getElem_cons_succ]
                refine wpAnyH_take (i := 26) (v := ?_) rfl (by kernel_rfl) (by kernel_rfl) (by kernel_rfl) (fun _ _ _ h => h) (Or.inl ⟨by rfl, ?_⟩) (by assumption) ?_
                rotate_left
                · intro w hSw
                  have hcell := hSw.1.ce
                  clear hSw
                  go_simp
                  try with_reducible rfl
                try simp only [Act.put, List.setIfInBounds_toArray, List.set_cons_zero, List.set_cons_succ, List.getElem_toArray, List.getElem_cons_zero, List.getElem_cons_succ]
                refine wpAnyH_take (i := 31) (v := ?_) rfl (by kernel_rfl) (by kernel_rfl) (by kernel_rfl) (fun _ _ _ h => h) (Or.inl ⟨by rfl, ?_⟩) (by assumption) ?_
                rotate_left
                · intro w hSw
                  have hcell := hSw.2.ce
                  clear hSw
                  go_simp
                  try with_reducible rfl
                try simp only [Act.put, List.setIfInBounds_toArray, List.set_cons_zero, List.set_cons_succ, List.getElem_toArray, List.getElem_cons_zero, List.getElem_cons_succ]
                have hdq := HDQ.out
                refine wpAnyH_take (i := 22) (v := ?_) rfl (by kernel_rfl) (by kernel_rfl) (by kernel_rfl) (fun _ _ _ h => h) (Or.inl ⟨by rfl, ?_⟩) (by assumption) ?_
                rotate_left
                · intro w hSw
                  (try dsimp only at hSw)
                  go_simp
                  try with_reducible rfl
                try simp only [Act.put, List.setIfInBounds_toArray, List.set_cons_zero, List.set_cons_succ, List.getElem_toArray, List.getElem_cons_zero, List.getElem_cons_succ]
                clear hdq
                refine wpAnyH_take (i := 27) (v := ?_) rfl (by kernel_rfl) (by kernel_rfl) (by kernel_rfl) (fun _ _ _ h => h) (Or.inl ⟨by rfl, ?_⟩) (by assumption) ?_
                rotate_left
                · intro w hSw
                  have hcell := (conv_any w za Aj nj cj Sj hSw.1.sl)
                  clear hSw
                  go_simp
                  try with_reducible rfl
                try simp only [Act.put, List.setIfInBounds_toArray, List.set_cons_zero, List.set_cons_succ, List.getElem_toArray, List.getElem_cons_zero, List.getElem_cons_succ]
                refine wpAnyH_take (i := 32) (v := ?_) rfl (by kernel_rfl) (by kernel_rfl) (by kernel_rfl) (fun _ _ _ h => h) (Or.inl ⟨by rfl, ?_⟩) (by assumption) ?_
                rotate_left
                · intro w hSw
                  have hcell := (conv_any w za Ak nk ck Sk hSw.2.sl)
                  clear hSw
                  go_simp
                  try with_reducible rfl
                try simp only [Act.put, List.setIfInBounds_toArray, List.set_cons_zero, List.set_cons_succ, List.getElem_toArray, List.getElem_cons_zero, List.getElem_cons_succ]
                have hsq := HSQ.out
                refine wpAnyH_take (i := 33) (v := ?_) rfl (by kernel_rfl) (by kernel_rfl) (by kernel_rfl) (fun _ _ _ h => h) (Or.inl ⟨by rfl, ?_⟩) (by assumption) ?_
                rotate_left
                · intro w hSw
                  (try dsimp only at hSw)
                  go_simp
                  try with_reducible rfl
                try simp only [Act.put, List.setIfInBounds_toArray, List.set_cons_zero, List.set_cons_succ, List.getElem_toArray, List.getElem_cons_zero, List.getElem_cons_succ]
                clear hsq
                refine wpAnyH_take (i := 34) (v := ?_) rfl (by kernel_rfl) (by kernel_rfl) (by kernel_rfl) (fun _ _ _ h => h) (Or.inl ⟨by rfl, ?_⟩) (by assumption) ?_
                rotate_left
                · intro w hSw
                  (try dsimp only at hSw)
                  go_simp
                  try with_reducible rfl
                try simp only [Act.put, List.setIfInBounds_toArray, List.set_cons_zero, List.set_cons_succ, List.getElem_toArray, List.getElem_cons_zero, List.getElem_cons_succ]
                refine wpAnyH_take (i := 35) (v := ?_) rfl (by kernel_rfl) (by kernel_rfl) (by kernel_rfl) (fun _ _ _ h => h) (Or.inl ⟨by rfl, ?_⟩) (by assumption) ?_
                rotate_left
                · intro w hSw
                  (try dsimp only at hSw)
                  go_simp
                  try with_reducible rfl
                try simp only [Act.put, List.setIfInBounds_toArray, List.set_cons_zero, List.set_cons_succ, List.getElem_toArray, List.getElem_cons_zero, List.getElem_cons_succ]
                refine wpAnyH_done (by kernel_rfl) ?_ _
                clear hHeld HIE2 HSQ HDQ
                go_wp2_with fail
                go_roundw
                case rel => exact ⟨k + 1, hlk, by go_num, HWb, HSjb, HBb⟩
                case measure => simp [intOf]; omega
              · have hkj : ¬ (k : Int) < j := by omega
                go_wp2_with fail
                go_roundw
                case rel => exact ⟨j + 1, hlj, by go_num, HWk, HBk⟩
                case measure => simp [intOf]; omega
          · have hjN : ¬ (j : Int) < N := by omega
            go_wp2_with fail
            refine (awake_any wr).mono ?_
            rintro e wa ⟨rfl, hbn⟩
            have HBa := Lib.hid (HBj.out.trans (hbn.mono HBj.out.size))
            clear hbn
            go_wp2_with fail
            go_ret
            exact ⟨rfl, HBa.out⟩
    · have hki : ¬ (i : Int) < n := by omega
      have hk0 : (0 : Int) ≤ i := by omega
      clear hlt hsv
      go_wp2_with fail
      obtain ⟨Am, cm, hme⟩ := own_form HWL.out.rm
      obtain ⟨At, ct, hte⟩ := own_form HWL.out.rt
      subst hme hte
      have hvl := HSG.out.len
      rw [hvl] at HWL ⊢
      obtain ⟨N, hN⟩ : ∃ N, ms.length = N := ⟨_, rfl⟩
      rw [hN] at HWL ⊢
      rw [hN] at hml
      have HNN := Lib.hid hN; have hN12 : N ≤ 12 := by omega
      have HLED := Lib.hid HWL.out.ring.led_ok
      clear hvl hN hml hi hi12 hnl
      go_loopw [21] (fun jv wr => ∃ j : Nat, j ≤ N ∧ jv = .int .i64 j ∧ Hid (Wl wr w.heap.size sec L g b V T tlo thi g5 R (.slice Am N cm) ms (.slice At N ct) vs Bs) ∧ Hid (Below w.heap.size w wr)) (fun jv _ => N - (intOf jv).toNat)
      case atStart => exact ⟨0, Nat.zero_le _, rfl, HWL, HB⟩
      case round =>
        obtain ⟨j, hj, rfl, HWj, HBj⟩ := hrel
        by_cases hlj : j < N
        · have hjN : (j : Int) < N := by omega
          have hj0 : (0 : Int) ≤ j := by omega
          obtain ⟨⟨bm, om, rfl⟩, ⟨bt, ot, rfl⟩⟩ := spots HWj.out HSG.out HNN.out (by omega)
          obtain ⟨mj, hmj⟩ : ∃ m, ms[j]? = some m := ⟨ms[j]'(by rw [HNN.out]; exact hlj), List.getElem?_eq_getElem _⟩
          have HMJ : Hid (mj ∈ L) := HSG.out.inL _ (List.mem_of_getElem? hmj)
          have HMO : Hid (DgOk mj) := HWj.out.mo _ (List.mem_of_getElem? hmj)
          obtain ⟨Aj, cj, hse, hcj⟩ := seen_of HWj.out HSG.out HNN.out hmj
          have HIX := Lib.hid (fun w' hs => kidx_sg w' (sec := sec) HLED.out (by omega) HMJ.out Aj _ cj hs hcj)
          have HVE := Lib.hid (fun w' hs => kver_sg w' (sec := sec) HLED.out (by omega) HMJ.out R mj HPO.out HMO.out Aj _ cj hs hcj)
          have hvt := ver_sg (sec := sec) HLED.out (by omega) HMJ.out HMO.out
          rw [HRE.out] at hvt
          rw [hvt] at HVE
          have HIE := Lib.hid (fun a (ha : a ∈ L) => idx_eq HMJ.out ha)
          have HSE := Lib.hid (fun a (ha : a ∈ L) => sg_eq (sec := sec) HLED.out HMJ.out ha)
          obtain ⟨Sj, hSj⟩ : ∃ x, sgI sec 3 L mj = x := ⟨_, rfl⟩
          rw [hSj] at hse HIX HVE HSE hcj
          obtain ⟨nj, hnj⟩ : ∃ x, Sj.length = x := ⟨_, rfl⟩
          rw [hnj] at hse HIX HVE hcj
          obtain ⟨Ij, hIj⟩ : ∃ x, L.idxOf mj = x := ⟨_, rfl⟩
          rw [hIj] at HIX HIE
          have HSN := Lib.hid hse
          have ce := hse.ce
          clear hmj hvt hSj hnj hIj hse hcj
          go_wp2_with fail
          refine (HIX.out wr HSN.out.sl).mono ?_
          rintro e wa ⟨rfl, hbn⟩
          have HWa := Lib.hid (HWj.out.later hbn); have HSa := Lib.hid (HSN.out.later hbn); have HBa := Lib.hid (HBj.out.trans (hbn.mono HBj.out.size))
          clear hbn ce HWj HSN HBj HIX
          go_wp2_with fail
          obtain ⟨za, hza⟩ : ∃ x, wa.heap.size = x := ⟨_, rfl⟩
          have HZA := Lib.hid hza
          rw [hza] at HSa
          have hbd : Below za wa wa.drew := hza ▸ below_draws wa wa.heap.size 1
          refine wp_region_held_drew (S := fun w' => Bk w' g5 23 (dl R) ∧ Seen w' za bm om bt ot j mj (.slice Aj nj cj) Aj nj Sj) (by kernel_rfl) ⟨Bk.drew HWa.out.pb, HSa.out.below hbd⟩ (fun hHeld => ?_)
          obtain ⟨wb, hwb⟩ : ∃ x, wa.drew = x := ⟨_, rfl⟩
          rw [hwb] at hbd hHeld ⊢
          have HWb := Lib.hid (HWa.out.later (hza ▸ hbd)); have HSb := Lib.hid (HSa.out.later' hza hbd); have HBb := Lib.hid (HBa.out.trans (hbd.mono (hza ▸ HBa.out.size)))
          have HZB : Hid (za ≤ wb.heap.size) := by show za ≤ _; rw [← hza]; exact hbd.size
          clear hwb hza hbd HWa HSa HBa
          refine wpAnyH_take (i := 0) (v := ?_) rfl (by kernel_rfl) (by kernel_rfl) (by kernel_rfl) (fun _ _ _ h => h) (Or.inl ⟨by rfl, ?_⟩) (by assumption) ?_
          rotate_left
          · intro w hSw
            (try dsimp only at hSw)
            go_simp
            try with_reducible rfl
          try simp only [Act.put, List.setIfInBounds_toArray, List.set_cons_zero, List.set_cons_succ, List.getElem_toArray, List.getElem_cons_zero, List.getElem_cons_succ]
          refine wpAnyH_take (i := 1) (v := ?_) rfl (by kernel_rfl) (by kernel_rfl) (by kernel_rfl) (fun _ _ _ h => h) (Or.inl ⟨by rfl, ?_⟩) (by assumption) ?_
          rotate_left
          · intro w hSw
            (try dsimp only at hSw)
            go_simp
            try with_reducible rfl
          try simp only [Act.put, List.setIfInBounds_toArray, List.set_cons_zero, List.set_cons_succ, List.getElem_toArray, List.getElem_cons_zero, List.getElem_cons_succ]
          refine wpAnyH_take (i := 2) (v := ?_) rfl (by kernel_rfl) (by kernel_rfl) (by kernel_rfl) (fun _ _ _ h => h) (Or.inl ⟨by rfl, ?_⟩) (by assumption) ?_
          rotate_left
          · intro w hSw
            (try dsimp only at hSw)
            go_simp
            try with_reducible rfl
          try simp only [Act.put, List.setIfInBounds_toArray, List.set_cons_zero, List.set_cons_succ, List.getElem_toArray, List.getElem_cons_zero, List.getElem_cons_succ]
          refine wpAnyH_take (i := 3) (v := .agg (List.toArray (dl R))) rfl (by kernel_rfl) (by kernel_rfl) (by kernel_rfl) (fun _ _ _ h => h) (yieldsIf_load_mid (by rfl) _ _ rfl _ _ rfl (dl R) _ (fun w hSw => (Bk.range (pre := []) (post := []) (by simpa using hSw.1) rfl)) Tryd.underlying23 rfl (hdg_size _ HPO.out)) (by assumption) ?_
          try simp only [Act.put, List.setIfInBounds_toArray, List.set_cons_zero, List.set_cons_succ, List.getElem_toArray, List.getElem_cons_zero, List.getElem_cons_succ]
          refine wpAnyH_take (i := 4) (v := ?_) rfl (by kernel_rfl) (by kernel_rfl) (by kernel_rfl) (fun _ _ _ h => h) (Or.inl ⟨by rfl, ?_⟩) (by assumption) ?_
          rotate_left
          · intro w hSw
            (try dsimp only at hSw)
            go_simp
            try with_reducible rfl
          try simp only [Act.put, List.setIfInBounds_toArray, List.set_cons_zero, List.set_cons_succ, List.getElem_toArray, List.getElem_cons_zero, List.getElem_cons_succ]
          refine wpAnyH_take (i := 5) (v := ?_) rfl (by kernel_rfl) (by kernel_rfl) (by kernel_rfl) (fun _ _ _ h => h) (Or.inl ⟨by rfl, ?_⟩) (by assumption) ?_
          rotate_left
          · intro w hSw
            (try dsimp only at hSw)
            go_simp
            try with_reducible rfl
          try simp only [Act.put, List.setIfInBounds_toArray, List.set_cons_zero, List.set_cons_succ, List.getElem_toArray, List.getElem_cons_zero, List.getElem_cons_succ]
          refine wpAnyH_take (i := 8) (v := ?_) rfl (by kernel_rfl) (by kernel_rfl) (by kernel_rfl) (fun _ _ _ h => h) (Or.inl ⟨by rfl, ?_⟩) (by assumption) ?_
          rotate_left
          · intro w hSw
            (try dsimp only at hSw)
            go_simp
            try with_reducible rfl
          try simp only [Act.put, List.setIfInBounds_toArray, List.set_cons_zero, List.set_cons_succ, List.getElem_toArray, List.getElem_cons_zero, List.getElem_cons_succ]
          refine wpAnyH_take (i := 9) (v := ?_) rfl (by kernel_rfl) (by kernel_rfl) (by kernel_rfl) (fun _ _ _ h => h) (Or.inl ⟨by rfl, ?_⟩) (by assumption) ?_
          rotate_left
          · intro w hSw
            (try dsimp only at hSw)
            go_simp
            try with_reducible rfl
          try simp only [Act.put, List.setIfInBounds_toArray, List.set_cons_zero, List.set_cons_succ, List.getElem_toArray, List.getElem_cons_zero, List.getElem_cons_succ]
          refine wpAnyH_take (i := 6) (v := ?_) rfl (by kernel_rfl) (by kernel_rfl) (by kernel_rfl) (fun _ _ _ h => h) (Or.inl ⟨by rfl, ?_⟩) (by assumption) ?_
          rotate_left
          · intro w hSw
            (try dsimp only at hSw)
            go_simp
            try with_reducible rfl
          try simp only [Act.put, List.setIfInBounds_toArray, List.set_cons_zero, List.set_cons_succ, List.getElem_toArray, List.getElem_cons_zero, List.getElem_cons_succ]
          refine wpAnyH_take (i := 10) (v := ?_) rfl (by kernel_rfl) (by kernel_rfl) (by kernel_rfl) (fun _ _ _ h => h) (Or.inl ⟨by rfl, ?_⟩) (by assumption) ?_
          rotate_left
          · intro w hSw
            (try dsimp only at hSw)
            go_simp
            try with_reducible rfl
          try simp only [Act.put, List.setIfInBounds_toArray, List.set_cons_zero, List.set_cons_succ, List.getElem_toArray, List.getElem_cons_zero, List.getElem_cons_succ]
          refine wpAnyH_take (i := 7) (v := .agg (List.toArray (dl mj))) rfl (by kernel_rfl) (by kernel_rfl) (by kernel_rfl) (fun _ _ _ h => h) (yieldsIf_load_mid (by rfl) _ _ rfl _ _ rfl (dl mj) _ (fun w hSw => hSw.2.rg) Tryd.underlying23 rfl (hdg_size _ HMO.out)) (by assumption) ?_
          try simp only [Act.put, List.setIfInBounds_toArray, List.set_cons_zero, List.set_cons_succ, List.getElem_toArray, List.getElem_cons_zero, List.getElem_cons_succ]
          refine wpAnyH_take (i := 11) (v := ?_) rfl (by kernel_rfl) (by kernel_rfl) (by kernel_rfl) (fun _ _ _ h => h) (Or.inl ⟨by rfl, ?_⟩) (by assumption) ?_
          rotate_left
          · intro w hSw
            have hcell := hSw.2.ce
            clear hSw
            go_simp
            try with_reducible rfl
          try simp only [Act.put, List.setIfInBounds_toArray, List.set_cons_zero, List.set_cons_succ, List.getElem_toArray, List.getElem_cons_zero, List.getElem_cons_succ]
          refine wpAnyH_ready (rs := [12]) (by kernel_rfl) (by simp) ?_
          refine AllReadyH.cons rfl (fun K hK => ?_) AllReadyH.nil
          go_simp
          (refine (HVE.out wb HSb.out.sl).mono ?_; rintro e wc ⟨rfl, hbn⟩; have HWc := Lib.hid (HWb.out.later hbn); have HSc := Lib.hid (HSb.out.later hbn); have HBc := Lib.hid (HBb.out.trans (hbn.mono HBb.out.size)); have hsw : Seen wc za bm om bt ot j mj (.slice Aj nj cj) Aj nj Sj := (hHeld.2.below (hbn.mono HZB.out)); clear hbn HWb HSb HBb)
          refine hK.out _ _ (⟨HWc.out.pb, hsw⟩) (fun hHeld => ?_)
          clear hK K
          try simp only [Act.put, List.setIfInBounds_toArray, List.set_cons_zero, List.set_cons_succ, List.getElem_toArray, List.getElem_cons_zero, List.getElem_cons_succ]
          clear hsw
          refine wpAnyH_take (i := 13) (v := ?_) rfl (by kernel_rfl) (by kernel_rfl) (by kernel_rfl) (fun _ _ _ h => h) (Or.inl ⟨by rfl, ?_⟩) (by assumption) ?_
          rotate_left
          · intro w hSw
            (try dsimp only at hSw)
            go_simp
            try with_reducible rfl
          try simp only [Act.put, List.setIfInBounds_toArray, List.set_cons_zero, List.set_cons_succ, List.getElem_toArray, List.getElem_cons_zero, List.getElem_cons_succ]
          refine wpAnyH_take (i := 14) (v := ?_) rfl (by kernel_rfl) (by kernel_rfl) (by kernel_rfl) (fun _ _ _ h => h) (Or.inl ⟨by rfl, ?_⟩) (by assumption) ?_
          rotate_left
          · intro w hSw
            (try dsimp only at hSw)
            go_simp
            try with_reducible rfl
          try simp only [Act.put, List.setIfInBounds_toArray, List.set_cons_zero, List.set_cons_succ, List.getElem_toArray, List.getElem_cons_zero, List.getElem_cons_succ]
          refine wpAnyH_done (by kernel_rfl) ?_ _
          clear hHeld HVE HZB
          go_wp2_with fail
          go_loopw [24] (fun kv wr => ∃ k : Nat, k ≤ j ∧ kv = .int .i64 k ∧ Hid (Wl wr w.heap.size sec L g b V T tlo thi g5 R (.slice (some ⟨bm, om, none⟩) N cm) ms (.slice (some ⟨bt, ot, none⟩) N ct) vs Bs) ∧ Hid (Seen wr wr.heap.size bm om bt ot j mj (.slice Aj nj cj) Aj nj Sj) ∧ Hid (Below w.heap.size w wr)) (fun kv _ => j - (intOf kv).toNat)
          case atStart => exact ⟨0, Nat.zero_le _, rfl, HWc, HSc, HBc⟩
          case round =>
            obtain ⟨k, hk, rfl, HWk, HSj, HBk⟩ := hrel
            by_cases hlk : k < j
            · have hkj : (k : Int) < j := by omega
              have hkN : (k : Int) < N := by omega
              have hk0 : (0 : Int) ≤ k := by omega
              obtain ⟨mk, hmk⟩ : ∃ m, ms[k]? = some m := ⟨ms[k]'(by rw [HNN.out]; omega), List.getElem?_eq_getElem _⟩
              have HMK : Hid (mk ∈ L) := HSG.out.inL _ (List.mem_of_getElem? hmk)
              have HMKO : Hid (DgOk mk) := HWk.out.mo _ (List.mem_of_getElem? hmk)
              obtain ⟨Ak, ck, hse, hck⟩ := seen_of HWk.out HSG.out HNN.out hmk
              have HIX := Lib.hid (fun w' hs => kidx_sg w' (sec := sec) HLED.out (by omega) HMK.out Ak _ ck hs hck)
              have hie := HIE.out mk HMK.out
              have hsq := HSE.out mk HMK.out
              have hdq := dg_eqw mj mk HMO.out HMKO.out
              obtain ⟨q, hq⟩ : ∃ q, eqL mj mk = q := ⟨_, rfl⟩
              rw [hq] at hie hsq hdq
              obtain ⟨Sk, hSk⟩ : ∃ x, sgI sec 3 L mk = x := ⟨_, rfl⟩
              rw [hSk] at hse HIX hck hsq
              obtain ⟨nk, hnk⟩ : ∃ x, Sk.length = x := ⟨_, rfl⟩
              rw [hnk] at hse HIX hck
              obtain ⟨Ik, hIk⟩ : ∃ x, L.idxOf mk = x := ⟨_, rfl⟩
              rw [hIk] at HIX hie
              have HIE2 := Lib.hid hie; have HSQ := Lib.hid hsq; have HDQ := Lib.hid hdq
              have HSk := Lib.hid hse
              have ce := hse.ce
              clear hmk hSk hnk hIk hse hck hq hie hsq hdq
              go_wp2_with fail
              refine (HIX.out wr HSk.out.sl).mono ?_
              rintro e wa ⟨rfl, hbn⟩
              have HWa := Lib.hid (HWk.out.later hbn); have HSja := Lib.hid (HSj.out.later hbn); have HSka := Lib.hid (HSk.out.later hbn); have HBa := Lib.hid (HBk.out.trans (hbn.mono HBk.out.size))
              clear hbn ce HWk HSj HSk HBk HIX
              go_wp2_with fail
              obtain ⟨za, hza⟩ : ∃ x, wa.heap.size = x := ⟨_, rfl⟩
              rw [hza] at HSja HSka
              have hbd : Below za wa wa.drew := hza ▸ below_draws wa wa.heap.size 1
              refine wp_region_held_drew (S := fun w' => Seen w' za bm om bt ot j mj (.slice Aj nj cj) Aj nj Sj ∧ Seen w' za bm om bt ot k mk (.slice Ak nk ck) Ak nk Sk) (by kernel_rfl) ⟨HSja.out.below hbd, HSka.out.below hbd⟩ (fun hHeld => ?_)
              obtain ⟨wb, hwb⟩ : ∃ x, wa.drew = x := ⟨_, rfl⟩
              rw [hwb] at hbd hHeld ⊢
              have HWb := Lib.hid (HWa.out.later (hza ▸ hbd)); have HSjb := Lib.hid (HSja.out.later' hza hbd); have HBb := Lib.hid (HBa.out.trans (hbd.mono (hza ▸ HBa.out.size)))
              clear hwb hza hbd HWa HSja HSka HBa
              have hie1 := HIE2.out
              have hie2 : decide ((Ij : Int) = Ik) = q := by rw [← hie1]; simp; omega
              have hie3 : ((Ij : Int) == Ik) = q := by rw [← hie2]; rfl
              refine wpAnyH_take (i := 0) (v := ?_) rfl (by kernel_rfl) (by kernel_rfl) (by kernel_rfl) (fun _ _ _ h => h) (Or.inl ⟨by rfl, ?_⟩) (by assumption) ?_
              rotate_left
              · intro w hSw
                (try dsimp only at hSw)
                go_simp
                try with_reducible rfl
              try simp only [Act.put, List.setIfInBounds_toArray, List.set_cons_zero, List.set_cons_succ, List.getElem_toArray, List.getElem_cons_zero, List.getElem_cons_succ]
              refine wpAnyH_take (i := 1) (v := ?_) rfl (by kernel_rfl) (by kernel_rfl) (by kernel_rfl) (fun _ _ _ h => h) (Or.inl ⟨by rfl, ?_⟩) (by assumption) ?_
              rotate_left
              · intro w hSw
                (try dsimp only at hSw)
                go_simp
                try with_reducible rfl
              try simp only [Act.put, List.setIfInBounds_toArray, List.set_cons_zero, List.set_cons_succ, List.getElem_toArray, List.getElem_cons_zero, List.getElem_cons_succ]
              refine wpAnyH_take (i := 3) (v := ?_) rfl (by kernel_rfl) (by kernel_rfl) (by kernel_rfl) (fun _ _ _ h => h) (Or.inl ⟨by rfl, ?_⟩) (by assumption) ?_
              rotate_left
              · intro w hSw
                (try dsimp only at hSw)
                go_simp
                try with_reducible rfl
              try simp only [Act.put, List.setIfInBounds_toArray, List.set_cons_zero, List.set_cons_succ, List.getElem_toArray, List.getElem_cons_zero, List.getElem_cons_succ]
              refine wpAnyH_take (i := 4) (v := ?_) rfl (by kernel_rfl) (by kernel_rfl) (by kernel_rfl) (fun _ _ _ h => h) (Or.inl ⟨by rfl, ?_⟩) (by assumption) ?_
              rotate_left
              · intro w hSw
                (try dsimp only at hSw)
                go_simp
                try with_reducible rfl
              try simp only [Act.put, List.setIfInBounds_toArray, List.set_cons_zero, List.set_cons_succ, List.getElem_toArray, List.getElem_cons_zero, List.getElem_cons_succ]
              refine wpAnyH_take (i := 7) (v := ?_) rfl (by kernel_rfl) (by kernel_rfl) (by kernel_rfl) (fun _ _ _ h => h) (Or.inl ⟨by rfl, ?_⟩) (by assumption) ?_
              rotate_left
              · intro w hSw
                (try dsimp only at hSw)
                go_simp
                try with_reducible rfl
              try simp only [Act.put, List.setIfInBounds_toArray, List.set_cons_zero, List.set_cons_succ, List.getElem_toArray, List.getElem_cons_zero, List.getElem_cons_succ]
              refine wpAnyH_take (i := 8) (v := ?_) rfl (by kernel_rfl) (by kernel_rfl) (by kernel_rfl) (fun _ _ _ h => h) (Or.inl ⟨by rfl, ?_⟩) (by assumption) ?_
              rotate_left
              · intro w hSw
                (try dsimp only at hSw)
                go_simp
                try with_reducible rfl
              try simp only [Act.put, List.setIfInBounds_toArray, List.set_cons_zero, List.set_cons_succ, List.getElem_toArray, List.getElem_cons_zero, List.getElem_cons_succ]
              refine wpAnyH_take (i := 2) (v := ?_) rfl (by kernel_rfl) (by kernel_rfl) (by kernel_rfl) (fun _ _ _ h => h) (Or.inl ⟨by rfl, ?_⟩) (by assumption) ?_
              rotate_left
              · intro w hSw
                (try dsimp only at hSw)
                go_simp
                try with_reducible rfl
              try simp only [Act.put, List.setIfInBounds_toArray, List.set_cons_zero, List.set_cons_succ, List.getElem_toArray, List.getElem_cons_zero, List.getElem_cons_succ]
              clear hie1 hie2 hie3
              refine wpAnyH_take (i := 5) (v := ?_) rfl (by kernel_rfl) (by kernel_rfl) (by kernel_rfl) (fun _ _ _ h => h) (Or.inl ⟨by rfl, ?_⟩) (by assumption) ?_
              rotate_left
              · intro w hSw
                (try dsimp only at hSw)
                go_simp
                try with_reducible rfl
              try simp only [Act.put, List.setIfInBounds_toArray, List.set_cons_zero, List.set_cons_succ, List.getElem_toArray, List.getElem_cons_zero, List.getElem_cons_succ]
              refine wpAnyH_take (i := 9) (v := ?_) rfl (by kernel_rfl) (by kernel_rfl) (by kernel_rfl) (fun _ _ _ h => h) (Or.inl ⟨by rfl, ?_⟩) (by assumption) ?_
              rotate_left
              · intro w hSw
                (try dsimp only at hSw)
                go_simp
                try with_reducible rfl
              try simp only [Act.put, List.setIfInBounds_toArray, List.set_cons_zero, List.set_cons_succ, List.getElem_toArray, List.getElem_cons_zero, List.getElem_cons_succ]
              refine wpAnyH_take (i := 6) (v := .agg (List.toArray (dl mj))) rfl (by kernel_rfl) (by kernel_rfl) (by kernel_rfl) (fun _ _ _ h => h) (yieldsIf_load_mid (by rfl) _ _ rfl _ _ rfl (dl mj) _ (fun w hSw => hSw.1.rg) Tryd.underlying23 rfl (hdg_size _ HMO.out)) (by assumption) ?_
              try simp only [Act.put, List.setIfInBounds_toArray, List.set_cons_zero, List.set_cons_succ, List.getElem_toArray, List.getElem_cons_zero, List.getElem_cons_succ]
              refine wpAnyH_take (i := 10) (v := .agg (List.toArray (dl mk))) rfl (by kernel_rfl) (by kernel_rfl) (by kernel_rfl) (fun _ _ _ h => h) (yieldsIf_load_mid (by rfl) _ _ rfl _ _ rfl (dl mk) _ (fun w hSw => hSw.2.rg) Tryd.underlying23 rfl (hdg_size _ HMKO.out)) (by assumption) ?_
              try simp only [Act.put, List.setIfInBounds_toArray, List.set_cons_zero, List.set_cons_succ, List.getElem_toArray, List.getElem_cons_zero, List.getElem_cons_succ]
              have hdq := HDQ.out
              refine wpAnyH_take (i := 11) (v := ?_) rfl (by kernel_rfl) (by kernel_rfl) (by kernel_rfl) (fun _ _ _ h => h) (Or.inl ⟨by rfl, ?_⟩) (by assumption) ?_
              rotate_left
              · intro w hSw
                (try dsimp only at hSw)
                go_simp
                try with_reducible rfl
              try simp only [Act.put, List.setIfInBounds_toArray, List.set_cons_zero, List.set_cons_succ, List.getElem_toArray, List.getElem_cons_zero, List.getElem_cons_succ]
              clear hdq
              refine wpAnyH_take (i := 12) (v := ?_) rfl (by kernel_rfl) (by kernel_rfl) (by kernel_rfl) (fun _ _ _ h => h) (Or.inl ⟨by rfl, ?_⟩) (by assumption) ?_
              rotate_left
              · intro w hSw
                (try dsimp only at hSw)
                go_simp
                try with_reducible rfl
              try simp only [Act.put, List.setIfInBounds_toArray, List.set_cons_zero, List.set_cons_succ, List.getElem_toArray, List.getElem_cons_zero, List.getElem_cons_succ]
              refine wpAnyH_take (i := 13) (v := ?_) rfl (by kernel_rfl) (by kernel_rfl) (by kernel_rfl) (fun _ _ _ h => h) (Or.inl ⟨by rfl, ?_⟩) (by assumption) ?_
              rotate_left
              · intro w hSw
                (try dsimp only at hSw)
                go_simp
                try with_reducible rfl
              try simp only [Act.put, List.setIfInBounds_toArray, List.set_cons_zero, List.set_cons_succ, List.getElem_toArray, List.getElem_cons_zero, List.getElem_cons_succ]
              refine wpAnyH_take (i := 14) (v := ?_) rfl (by kernel_rfl) (by kernel_rfl) (by kernel_rfl) (fun _ _ _ h => h) (Or.inl ⟨by rfl, ?_⟩) (by assumption) ?_
              rotate_left
              · intro w hSw
                (try dsimp only at hSw)
                go_simp
                try with_reducible rfl
              try simp only [Act.put, List.setIfInBounds_toArray, List.set_cons_zero, List.set_cons_succ, List.getElem_toArray, List.getElem_cons_zero, List.getElem_cons_succ]
              refine wpAnyH_take (i := 15) (v := ?_) rfl (by kernel_rfl) (by kernel_rfl) (by kernel_rfl) (fun _ _ _ h => h) (Or.inl ⟨by rfl, ?_⟩) (by assumption) ?_
              rotate_left
              · intro w hSw
                (try dsimp only at hSw)
                go_simp
                try with_reducible rfl
              try simp only [Act.put, List.setIfInBounds_toArray, List.set_cons_zero, List.set_cons_succ, List.getElem_toArray, List.getElem_cons_zero, List.getElem_cons_succ]
              refine wpAnyH_take (i := 18) (v := ?_) rfl (by kernel_rfl) (by kernel_rfl) (by kernel_rfl) (fun _ _ _ h => h) (Or.inl ⟨by rfl, ?_⟩) (by assumption) ?_
              rotate_left
              · intro w hSw
                (try dsimp only at hSw)
                go_simp
                try with_reducible rfl
              try simp only [Act.put, List.setIfInBounds_toArray, List.set_cons_zero, List.set_cons_succ, List.getElem_toArray, List.getElem_cons_zero, List.getElem_cons_succ]
              refine wpAnyH_take (i := 19) (v := ?_) rfl (by kernel_rfl) (by kernel_rfl) (by kernel_rfl) (fun _ _ _ h => h) (Or.inl ⟨by rfl, ?_⟩) (by assumption) ?_
              rotate_left
              · intro w hSw
                (try dsimp only at hSw)
                go_simp
                try with_reducible rfl
              try simp only [Act.put, List.setIfInBounds_toArray, List.set_cons_zero, List.set_cons_succ, List.getElem_toArray, List.getElem_cons_zero, List.getElem_cons_succ]
              refine wpAnyH_take (i := 23) (v := ?_) rfl (by kernel_rfl) (by kernel_rfl) (by kernel_rfl) (fun _ _ _ h => h) (Or.inl ⟨by rfl, ?_⟩) (by assumption) ?_
              rotate_left
              · intro w hSw
                (try dsimp only at hSw)
                go_simp
                try with_reducible rfl
              try simp only [Act.put, List.setIfInBounds_toArray, List.set_cons_zero, List.set_cons_succ, List.getElem_toArray, List.getElem_cons_zero, List.getElem_cons_succ]
              refine wpAnyH_take (i := 24) (v := ?_) rfl (by kernel_rfl) (by kernel_rfl) (by kernel_rfl) (fun _ _ _ h => h) (Or.inl ⟨by rfl, ?_⟩) (by assumption) ?_
              rotate_left
              · intro w hSw
                (try dsimp only at hSw)
                go_simp
                try with_reducible rfl
              try simp only [Act.put, List.setIfInBounds_toArray, List.set_cons_zero, List.set_cons_succ, List.getElem_toArray, List.getElem_cons_zero, List.getElem_cons_succ]
              refine wpAnyH_take (i := 28) (v := ?_) rfl (by kernel_rfl) (by kernel_rfl) (by kernel_rfl) (fun _ _ _ h => h) (Or.inl ⟨by rfl, ?_⟩) (by assumption) ?_
              rotate_left
              · intro w hSw
                (try dsimp only at hSw)
                go_simp
                try with_reducible rfl
              try simp only [Act.put, List.setIfInBounds_toArray, List.set_cons_zero, List.set_cons_succ, List.getElem_toArray, List.getElem_cons_zero, List.getElem_cons_succ]
              refine wpAnyH_take (i := 29) (v := ?_) rfl (by kernel_rfl) (by kernel_rfl) (by kernel_rfl) (fun _ _ _ h => h) (Or.inl ⟨by rfl, ?_⟩) (by assumption) ?_
              rotate_left
              · intro w hSw
                (try dsimp only at hSw)
                go_simp
                try with_reducible rfl
              try simp only [Act.put, List.setIfInBounds_toArray, List.set_cons_zero, List.set_cons_succ, List.getElem_toArray, List.getElem_cons_zero, List.getElem_cons_succ]
              refine wpAnyH_take (i := 16) (v := ?_) rfl (by kernel_rfl) (by kernel_rfl) (by kernel_rfl) (fun _ _ _ h => h) (Or.inl ⟨by rfl, ?_⟩) (by assumption) ?_
              rotate_left
              · intro w hSw
                (try dsimp only at hSw)
                go_simp
                try with_reducible rfl
              try simp only [Act.put, List.setIfInBounds_toArray, List.set_cons_zero, List.set_cons_succ, List.getElem_toArray, List.getElem_cons_zero, List.getElem_cons_succ]
              refine wpAnyH_take (i := 20) (v := ?_) rfl (by kernel_rfl) (by kernel_rfl) (by kernel_rfl) (fun _ _ _ h => h) (Or.inl ⟨by rfl, ?_⟩) (by assumption) ?_
              rotate_left
              · intro w hSw
                (try dsimp only at hSw)
                go_simp
                try with_reducible rfl
              try simp only [Act.put, List.setIfInBounds_toArray, List.set_cons_zero, List.set_cons_succ, List.getElem_toArray, List.getElem_cons_zero, List.getElem_cons_succ]
              refine wpAnyH_take (i := 25) (v := ?_) rfl (by kernel_rfl) (by kernel_rfl) (by kernel_rfl) (fun _ _ _ h => h) (Or.inl ⟨by rfl, ?_⟩) (by assumption) ?_
              rotate_left
              · intro w hSw
                (try dsimp only at hSw)
                go_simp
                try with_reducible rfl
              try simp only [Act.put, List.setIfInBounds_toArray, List.set_cons_zero, List.set_cons_succ, List.getElem_toArray, List.getElem_cons_zero, List.getElem_cons_succ]
              refine wpAnyH_take (i := 30) (v := ?_) rfl (by kernel_rfl) (by kernel_rfl) (by kernel_rfl) (fun _ _ _ h => h) (Or.inl ⟨by rfl, ?_⟩) (by assumption) ?_
              rotate_left
              · intro w hSw
                (try dsimp only at hSw)
                go_simp
                try with_reducible rfl
              try simp only [Act.put, List.setIfInBounds_toArray, List.set_cons_zero, List.set_cons_succ, List.getElem_toArray, List.getElem_cons_zero, List.getElem_cons_succ]
              refine wpAnyH_take (i := 17) (v := .agg (List.toArray (dl mj))) rfl (by kernel_rfl) (by kernel_rfl) (by kernel_rfl) (fun _ _ _ h => h) (yieldsIf_load_mid (by rfl) _ _ rfl _ _ rfl (dl mj) _ (fun w hSw => hSw.1.rg) Tryd.underlying23 rfl (hdg_size _ HMO.out)) (by assumption) ?_
              try simp only [Act.put, List.setIfInBounds_toArray, List.set_cons_zero, List.set_cons_succ, List.getElem_toArray, List.getElem_cons_zero, List.getElem_cons_succ]
              refine wpAnyH_take (i := 21) (v := .agg (List.toArray (dl mk))) rfl (by kernel_rfl) (by kernel_rfl) (by kernel_rfl) (fun _ _ _ h => h) (yieldsIf_load_mid (by rfl) _ _ rfl _ _ rfl (dl mk) _ (fun w hSw => hSw.2.rg) Tryd.underlying23 rfl (hdg_size _ HMKO.out)) (by assumption) ?_
              try simp only [Act.put, List.setIfInBounds_toArray, List.set_cons_zero, List.set_cons_succ, List.getElem_toArray, List.getElem_cons_zero, List.getElem_cons_succ]
              refine wpAnyH_take (i := 26) (v := ?_) rfl (by kernel_rfl) (by kernel_rfl) (by kernel_rfl) (fun _ _ _ h => h) (Or.inl ⟨by rfl, ?_⟩) (by assumption) ?_
              rotate_left
              · intro w hSw
                have hcell := hSw.1.ce
                clear hSw
                go_simp
                try with_reducible rfl
              try simp only [Act.put, List.setIfInBounds_toArray, List.set_cons_zero, List.set_cons_succ, List.getElem_toArray, List.getElem_cons_zero, List.getElem_cons_succ]
              refine wpAnyH_take (i := 31) (v := ?_) rfl (by kernel_rfl) (by kernel_rfl) (by kernel_rfl) (fun _ _ _ h => h) (Or.inl ⟨by rfl, ?_⟩) (by assumption) ?_
              rotate_left
              · intro w hSw
                have hcell := hSw.2.ce
                clear hSw
                go_simp
                try with_reducible rfl
              try simp only [Act.put, List.setIfInBounds_toArray, List.set_cons_zero, List.set_cons_succ, List.getElem_toArray, List.getElem_cons_zero, List.getElem_cons_succ]
              have hdq := HDQ.out
              refine wpAnyH_take (i := 22) (v := ?_) rfl (by kernel_rfl) (by kernel_rfl) (by kernel_rfl) (fun _ _ _ h => h) (Or.inl ⟨by rfl, ?_⟩) (by assumption) ?_
              rotate_left
              · intro w hSw
                (try dsimp only at hSw)
                go_simp
                try with_reducible rfl
              try simp only [Act.put, List.setIfInBounds_toArray, List.set_cons_zero, List.set_cons_succ, List.getElem_toArray, List.getElem_cons_zero, List.getElem_cons_succ]
              clear hdq
              refine wpAnyH_take (i := 27) (v := ?_) rfl (by kernel_rfl) (by kernel_rfl) (by kernel_rfl) (fun _ _ _ h => h) (Or.inl ⟨by rfl, ?_⟩) (by assumption) ?_
              rotate_left
              · intro w hSw
                have hcell := (conv_any w za Aj nj cj Sj hSw.1.sl)
                clear hSw
                go_simp
                try with_reducible rfl
              try simp only [Act.put, List.setIfInBounds_toArray, List.set_cons_zero, List.set_cons_succ, List.getElem_toArray, List.getElem_cons_zero, List.getElem_cons_succ]
              refine wpAnyH_take (i := 32) (v := ?_) rfl (by kernel_rfl) (by kernel_rfl) (by kernel_rfl) (fun _ _ _ h => h) (Or.inl ⟨by rfl, ?_⟩) (by assumption) ?_
              rotate_left
              · intro w hSw
                have hcell := (conv_any w za Ak nk ck Sk hSw.2.sl)
                clear hSw
                go_simp
                try with_reducible rfl
              try simp only [Act.put, List.setIfInBounds_toArray, List.set_cons_zero, List.set_cons_succ, List.getElem_toArray, List.getElem_cons_zero, List.getElem_cons_succ]
              have hsq := HSQ.out
              refine wpAnyH_take (i := 33) (v := ?_) rfl (by kernel_rfl) (by kernel_rfl) (by kernel_rfl) (fun _ _ _ h => h) (Or.inl ⟨by rfl, ?_⟩) (by assumption) ?_
              rotate_left
              · intro w hSw
                (try dsimp only at hSw)
                go_simp
                try with_reducible rfl
              try simp only [Act.put, List.setIfInBounds_toArray, List.set_cons_zero, List.set_cons_succ, List.getElem_toArray, List.getElem_cons_zero, List.getElem_cons_succ]
              clear hsq
              refine wpAnyH_take (i := 34) (v := ?_) rfl (by kernel_rfl) (by kernel_rfl) (by kernel_rfl) (fun _ _ _ h => h) (Or.inl ⟨by rfl, ?_⟩) (by assumption) ?_
              rotate_left
              · intro w hSw
                (try dsimp only at hSw)
                go_simp
                try with_reducible rfl
              try simp only [Act.put, List.setIfInBounds_toArray, List.set_cons_zero, List.set_cons_succ, List.getElem_toArray, List.getElem_cons_zero, List.getElem_cons_succ]
              refine wpAnyH_take (i := 35) (v := ?_) rfl (by kernel_rfl) (by kernel_rfl) (by kernel_rfl) (fun _ _ _ h => h) (Or.inl ⟨by rfl, ?_⟩) (by assumption) ?_
              rotate_left
              · intro w hSw
                (try dsimp only at hSw)
                go_simp
                try with_reducible rfl
              try simp only [Act.put, List.setIfInBounds_toArray, List.set_cons_zero, List.set_cons_succ, List.getElem_toArray, List.getElem_cons_zero, List.getElem_cons_succ]
              refine wpAnyH_done (by kernel_rfl) ?_ _
              clear hHeld HIE2 HSQ HDQ
              go_wp2_with fail
              go_roundw
              case rel => exact ⟨k + 1, hlk, by go_num, HWb, HSjb, HBb⟩
              case measure => simp [intOf]; omega
            · have hkj : ¬ (k : Int) < j := by omega
              go_wp2_with fail
              go_roundw
              case rel => exact ⟨j + 1, hlj, by go_num, HWk, HBk⟩
              case measure => simp [intOf]; omega
        · have hjN : ¬ (j : Int) < N := by omega
          go_wp2_with fail
          refine (awake_any wr).mono ?_
          rintro e wa ⟨rfl, hbn⟩
          have HBa := Lib.hid (HBj.out.trans (hbn.mono HBj.out.size))
          clear hbn
          go_wp2_with fail
          go_ret
          exact ⟨rfl, HBa.out⟩
end Go.Proofs.YtakfdlokgddaoaaDoor
