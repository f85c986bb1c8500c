/- The document's Paid and Check of a transaction. -/
import Derived.Test.YtbpmomedhdmloaaGreatDoorB5
import Derived.Test.YtbpmomedhdmloaaGreatDoorOC
namespace Go.Proofs.YtbpmomedhdmloaaGreatDoor
set_option linter.unusedSimpArgs false
set_option linter.unusedVariables false
open Go.RowKit Go.Maps

/-- What the document says of a payment, step by step. -/
theorem paidE_steps {b : List Int} (hb : ByOk b) {R1 R2 : Rd × Int} (h1 : numR ⟨b, 0⟩ 18446744073709551615 = R1) (h2 : numR R1.1 18446744073709551615 = R2) (ho : ByOk R1.1.rest) :
    paidE b = if R2.1.err ≠ 0 then R2.1.err else if 1125899906842624 < R2.2 then 2 else if R2.1.rest ≠ [] then 5 else 0 := by
  unfold paidE
  rw [h1, ← h2]
  generalize R1.1 = s at ho
  unfold numR
  by_cases he : s.err = 0
  · rw [if_pos he, if_pos he]
    by_cases hl : (lookB s.rest).2.2 = 0
    · have hp := look_pos hl ho
      rw [if_pos hl, if_pos hl, if_pos (show (lookB s.rest).1 ≤ 18446744073709551615 by omega)]
      by_cases hm : (lookB s.rest).1 ≤ 1125899906842624
      · rw [if_pos hm]
        show endR ⟨_, 0⟩ = _
        rw [if_neg (by simp), if_neg (by simpa using hm)]
        unfold endR
        rw [if_pos rfl]
        by_cases hr : s.rest.drop (lookB s.rest).2.1 = []
        · rw [if_pos hr, if_neg (by simpa using hr)]
        · rw [if_neg hr, if_pos (by simpa using hr)]
      · rw [if_neg hm]
        show endR ⟨_, 2⟩ = _
        rw [if_neg (by simp), if_pos (by simpa using hm)]
        rfl
    · rw [if_neg hl, if_neg hl]
      show endR ⟨_, _⟩ = _
      unfold endR
      rw [if_neg hl, if_pos hl]
  · rw [if_neg he, if_neg he]
    show endR s = _
    unfold endR
    rw [if_neg he, if_pos he]
theorem numR_val {s : Rd} (ho : ByOk s.rest) (m : Int) : 0 ≤ (numR s m).2 ∧ (numR s m).2 < 18446744073709551616 := by
  unfold numR
  by_cases he : s.err = 0
  · rw [if_pos he]
    by_cases hl : (lookB s.rest).2.2 = 0
    · have hp := look_pos hl ho
      rw [if_pos hl]
      by_cases hm : (lookB s.rest).1 ≤ m
      · rw [if_pos hm]; exact ⟨hp.1, hp.2.1⟩
      · rw [if_neg hm]; exact ⟨Int.le_refl _, by show (0 : Int) < _; decide⟩
    · rw [if_neg hl]; exact ⟨Int.le_refl _, by show (0 : Int) < _; decide⟩
  · rw [if_neg he]; exact ⟨Int.le_refl _, by show (0 : Int) < _; decide⟩
def rvl (A : Option Addr) (n c : Nat) (k e : Int) : List Value := [.slice A n c, .int .i64 k, .int .i64 e]
theorem rvl_one (A : Option Addr) (n c : Nat) (k e : Int) : ∀ x ∈ rvl A n c k e, x.oneCell' = true := by
  intro x hx; simp [rvl] at hx; rcases hx with rfl | rfl | rfl <;> rfl
theorem rvl_size (A : Option Addr) (n c : Nat) (k e : Int) : (Tryz.prog.info? 114).map (·.size) = some (rvl A n c k e).length := by show _ = some 3; kernel_rfl
theorem RvAt.form2 {w : World} {B : Nat} {v : Value} {s : Rd} (h : RvAt w B v s) : ∃ (A : Option Addr) (n c k : Nat), v = .agg (rvl A n c k s.err).toArray ∧ (s.rest ≠ [] ↔ k < n) := by
  obtain ⟨A, n, c, bs, k, rfl, h1, _, h2, _, _, h3⟩ := h
  refine ⟨A, n, c, k, rfl, ?_⟩
  have hl := h1.length
  have h4 : s.rest.length = n - k := by rw [← h3, List.length_drop]; omega
  constructor
  · intro h5
    have := List.length_pos_iff.2 h5
    omega
  · intro h5 h6
    rw [h6] at h4
    simp at h4
    omega
theorem build_rvl (A : Option Addr) (n c : Nat) (w : World) : (Instr.build 114 #[(0, .slice A n c)]).run Tryz.prog w = .ok (.agg (rvl A n c 0 0).toArray) w := by kernel_rfl
theorem rbuild_d0 (w : World) : (Instr.build 22 #[]).run Tryz.prog w = .ok (.agg (dl zeroD).toArray) w := by kernel_rfl
theorem rdg_szd {d : List Int} (h : DgOk d) : (Tryz.prog.info? 22).map (·.size) = some (dl d).length := by rw [dl_len, h.len]; kernel_rfl
theorem dg_lensd {d : List Int} (h : DgOk d) : (dl zeroD).length = (dl d).length := by rw [dl_len, dl_len, h.len]; rfl
theorem rpaid_ret {w : World} {g : Nat} {d : List Int} (hd : DgOk d) (h : Bk w g 22 (dl d)) (tmps : Array Value) (h2 : tmps.getD 2 undef = .pointer (some ⟨g, 0, none⟩)) {a e : Value} (h3 : tmps.getD 3 undef = a) (h4 : tmps.getD 4 undef = e) :
    (results Tryz.f92 tmps).run Tryz.prog w = .ok (.tuple #[.agg (dl d).toArray, a, e]) w := by
  have r1 : w.rangeAt g 0 (dl d) := Bk.range (pre := []) (post := []) (by simpa using h) rfl
  have l1 := run_loadVar_mid (P := Tryz.prog) w g 0 22 (dl d) _ r1 Tryz.underlying22 rfl (rdg_szd hd)
  rw [Array.getD_eq_getD_getElem?] at h2 h3 h4
  simp [results, Tryz.results92, h2, h3, h4, asAddr, l1]
set_option maxRecDepth 20000 in
set_option maxHeartbeats 2000000 in
theorem rpaid_any (w : World) (t : TxT) (hh : DgOk t.f) (A : Option Addr) (N C : Nat) (q : Value) (hs : Sl w w.heap.size 1 A N (t.b.map (.int .u8))) (hb : ByOk t.b) (hN : N ≤ 1073741824) (hc : N ≤ C) (hk : t.k = 0) :
    Calls Tryz.prog 92 #[.agg (txC t (.slice A N C) q).toArray] w fun e w' => (∃ (d : List Int) (a : Int), e = .returned (.tuple #[.agg (dl d).toArray, .int .i64 a, .int .i64 (paidE t.b)]) ∧ DgOk d) ∧ Below w.heap.size w w' := by
  obtain ⟨l, hl⟩ : ∃ x, txC t (.slice A N C) q = x := ⟨_, rfl⟩
  obtain ⟨X, hX⟩ : ∃ X, l.toArray = X := ⟨_, rfl⟩
  obtain ⟨z, hz⟩ : ∃ z, w.heap.size = z := ⟨_, rfl⟩
  obtain ⟨w1, hw1⟩ : ∃ w1, (w.alloc (.cells X 74)).alloc (.cells #[.int .u8 0, .int .u8 0, .int .u8 0, .int .u8 0, .int .u8 0, .int .u8 0, .int .u8 0, .int .u8 0] 22) = w1 := ⟨_, rfl⟩
  have hb1 : Below w.heap.size w w1 := hw1 ▸ (below_new w _).alloc (by simp) _
  have kx : Bk w1 z 74 (txC t (.slice A N C) q) := hw1 ▸ (Bk.at_ w _ X hz (by rw [← hX, ← hl])).alloc _
  have kr : Bk w1 (z + 1) 22 ([] ++ (dl zeroD ++ [])) := hw1 ▸ Bk.at_ _ _ #[.int .u8 0, .int .u8 0, .int .u8 0, .int .u8 0, .int .u8 0, .int .u8 0, .int .u8 0, .int .u8 0] (by simp [hz]) rfl
  have hm := tx_mem hh kx
  have h10 := hm.c10; have h11 := hm.c11
  rw [hk] at h10
  simp only [Nat.zero_add] at h10 h11
  obtain ⟨P, hP⟩ : ∃ P, paidE t.b = P := ⟨_, rfl⟩
  obtain ⟨R1, hR1⟩ : ∃ R, numR ⟨t.b, 0⟩ 18446744073709551615 = R := ⟨_, rfl⟩
  obtain ⟨R2, hR2⟩ : ∃ R, numR R1.1 18446744073709551615 = R := ⟨_, rfl⟩
  have HPS := Lib.hid (fun ho => (hP.symm.trans (paidE_steps hb hR1 hR2 ho)))
  have hr0 : RvAt w1 w1.heap.size (.agg (rvl A N C 0 0).toArray) ⟨t.b, 0⟩ := RvAt.new (hs.later hb1) hb hN hc
  have HS0 := Lib.hid hr0
  have hnv := numR_val (s := ⟨t.b, 0⟩) hb 18446744073709551615
  rw [hR1] at hnv
  have HNV := Lib.hid hnv
  have HE1 := Lib.hid hR1; have HE2 := Lib.hid hR2
  have HW := Lib.hid hw1; have HB1 := Lib.hid hb1; have HR1 := Lib.hid kr; have HZ := Lib.hid hz
  rw [hl, hX, hP]
  have hbr := build_rvl A N C
  clear hl hX hw1 hb1 kx kr hm hs hb hh hk hP hz hr0 hR1 hR2 hN hc hnv
  go_enter Tryz.func92, Tryz.ntmps92
  go_upto_region 1 with fail
  rw [HW.out, HZ.out]
  go_wp2_with (first
    | ((with_reducible refine wpList_build rfl 114 _ rfl #[(0, .slice A N C)] ?_ _ (hbr _) ?_); focus (simp [Act.eval, Act.put]; done))
    | (with_reducible refine stop_store 114 _ _ rfl ?_))
  refine StopD.go ?_
  obtain ⟨g4, hg4⟩ : ∃ g, w1.heap.size = g := ⟨_, rfl⟩
  have hbn : Below w1.heap.size w1 (w1.alloc (.cells #[.slice none 0 0, .int .i64 0, .int .i64 0] 114)) := below_new w1 _
  have kt : Bk (w1.alloc (.cells #[.slice none 0 0, .int .i64 0, .int .i64 0] 114)) g4 114 ([] ++ (rvl none 0 0 0 0 ++ [])) := by rw [← hg4]; exact Bk.new' w1 _ #[.slice none 0 0, .int .i64 0, .int .i64 0] rfl
  rw [hg4]
  refine wpList_store_part rfl 114 _ _ rfl g4 0 (.agg (rvl A N C 0 0).toArray) (rvl A N C 0 0) rfl rfl rfl 114 [] (rvl none 0 0 0 0) [] kt rfl rfl (rvl_size _ _ _ _ _) (rvl_one _ _ _ _ _) ?_
  intro w4 hp
  have hbn : Below w1.heap.size w1 w4 := hbn.grown hp.only hbn.size (fun q hq => by injection hq with hq; omega)
  have HV4 : Hid (Bk w4 g4 114 (rvl A N C 0 0)) := by show Bk _ _ _ _; have := hp.bk; simpa using this
  have HG4 : Hid (w1.heap.size ≤ g4 ∧ z + 1 < g4) := by have := HR1.out.lt; show _ ∧ _; omega
  have HB4 := Lib.hid hbn; have HS4 := Lib.hid (HS0.out.below hbn); have HR4 := Lib.hid (HR1.out.later hbn)
  clear hp kt hg4 hbn h10 h11 hbr HS0
  go_wp2_with (with_reducible refine wpList_load_bk rfl 114 _ rfl g4 rfl (rvl A N C 0 0) 114 HV4.out _ Tryz.underlying114 rfl (rvl_size _ _ _ _ _) ?_)
  refine (rRead_any w4 w1.heap.size HB4.out.size _ _ HS4.out 18446744073709551615).mono ?_
  rintro e w5 ⟨v, rfl, hr, hbn⟩
  rw [HE1.out] at hr
  rw [HE1.out]
  obtain ⟨A1, n1, c1, k1, rfl, hq1⟩ := hr.form2
  clear hq1
  have HS5 := Lib.hid hr
  have HB5 := Lib.hid (below_then HB4.out hbn); have HV5 := Lib.hid (HV4.out.later hbn); have HR5 := Lib.hid (HR4.out.later hbn)
  clear hr hbn HB4 HV4 HR4 HS4
  go_wp2_with (with_reducible refine stop_store 114 _ _ rfl ?_)
  refine StopD.go ?_
  refine wpList_store_part rfl 114 _ _ rfl g4 0 (.agg (rvl A1 n1 c1 k1 R1.1.err).toArray) (rvl A1 n1 c1 k1 R1.1.err) rfl rfl rfl 114 [] (rvl A N C 0 0) [] (by simpa using HV5.out) rfl rfl (rvl_size _ _ _ _ _) (rvl_one _ _ _ _ _) ?_
  intro w6 hp
  have HV6 : Hid (Bk w6 g4 114 (rvl A1 n1 c1 k1 R1.1.err)) := by show Bk _ _ _ _; have := hp.bk; simpa using this
  have HB6 := Lib.hid (below_only HB5.out hp.only HB5.out.size HG4.out.1)
  have HR6 := Lib.hid (HR5.out.grown hp.only (by intro e; injection e with e; have := HG4.out.2; omega))
  have HS6 : Hid (RvAt w6 w1.heap.size (.agg (rvl A1 n1 c1 k1 R1.1.err).toArray) R1.1) := HS5.out.below (below_only (Below.refl _ _) hp.only HB5.out.size HG4.out.1)
  clear hp HV5 HB5 HR5 HS5
  go_wp2_with (with_reducible refine wpList_load_bk rfl 114 _ rfl g4 rfl (rvl A1 n1 c1 k1 R1.1.err) 114 HV6.out _ Tryz.underlying114 rfl (rvl_size _ _ _ _ _) ?_)
  refine (rRead_any w6 w1.heap.size HB6.out.size _ _ HS6.out 18446744073709551615).mono ?_
  rintro e w7 ⟨v, rfl, hr, hbn⟩
  have HOK := Lib.hid HS6.out.ok
  rw [HE2.out] at hr
  rw [HE2.out]
  obtain ⟨A2, n2, c2, k2, rfl, hrest⟩ := hr.form2
  have HB7 := Lib.hid (below_then HB6.out hbn); have HV7 := Lib.hid (HV6.out.later hbn); have HR7 := Lib.hid (HR6.out.later hbn)
  have hps0 := HPS.out HOK.out
  obtain ⟨e2, he2⟩ : ∃ e, R2.1.err = e := ⟨_, rfl⟩
  obtain ⟨y2, hy2⟩ : ∃ e, R2.2 = e := ⟨_, rfl⟩
  have hps : P = if e2 ≠ 0 then e2 else if 1125899906842624 < y2 then 2 else if k2 < n2 then 5 else 0 := by
    rw [hps0, he2, hy2]
    simp only [hrest]
  rw [he2, hy2]
  have HQ := Lib.hid hps
  clear hr hbn HB6 HV6 HR6 HS6 HPS HOK hps hps0 hrest he2 hy2 HE1 HE2
  go_wp2_with (with_reducible refine stop_store 114 _ _ rfl ?_)
  refine StopD.go ?_
  refine wpList_store_part rfl 114 _ _ rfl g4 0 (.agg (rvl A2 n2 c2 k2 e2).toArray) (rvl A2 n2 c2 k2 e2) rfl rfl rfl 114 [] (rvl A1 n1 c1 k1 R1.1.err) [] (by simpa using HV7.out) rfl rfl (rvl_size _ _ _ _ _) (rvl_one _ _ _ _ _) ?_
  intro w8 hp
  have hbk : Bk w8 g4 114 (rvl A2 n2 c2 k2 e2) := by have := hp.bk; simpa using this
  have HV8 := Lib.hid hbk
  have HB8 := Lib.hid (below_then HB1.out (below_only HB7.out hp.only HB7.out.size HG4.out.1))
  have HR8 := Lib.hid (HR7.out.grown hp.only (by intro e; injection e with e; have := HG4.out.2; omega))
  have c0 : w8.cell? ⟨g4, 0, none⟩ = some (.slice A2 n2 c2) := by rw [hbk.cell]; rfl
  have c1' : w8.cell? ⟨g4, 1, none⟩ = some (.int .i64 k2) := by rw [hbk.cell]; rfl
  have c2' : w8.cell? ⟨g4, 2, none⟩ = some (.int .i64 e2) := by rw [hbk.cell]; rfl
  clear hp hbk HV7 HB7 HR7
  by_cases he : e2 = 0
  · subst he
    have hQ : P = if 1125899906842624 < y2 then 2 else if k2 < n2 then 5 else 0 := by have := HQ.out; rwa [if_neg (by simp)] at this
    by_cases hy : 1125899906842624 < y2
    · obtain rfl : P = 2 := by rwa [if_pos hy] at hQ
      clear hQ
      go_wp2_with (first
        | ((with_reducible refine wpList_build rfl 22 _ rfl #[] ?_ _ (rbuild_d0 _) ?_); focus (simp [Act.eval, Act.put]; done))
        | (with_reducible refine stop_store 22 _ _ rfl ?_))
      refine StopD.go ?_
      refine wpList_store_part rfl 22 _ _ rfl (z + 1) 0 (.agg (dl zeroD).toArray) (dl zeroD) rfl rfl rfl 22 [] (dl zeroD) [] HR8.out rfl (dg_lensd zero_ok) (rdg_szd zero_ok) (dl_one' _) ?_
      intro wz hp
      have HTz : Hid (Bk wz ((z + 1)) 22 (dl zeroD)) := by show Bk _ _ _ _; have := hp.bk; simpa using this
      have HBz := Lib.hid (below_only HB8.out hp.only HB8.out.size (by have := HZ.out; omega))
      clear hp
      go_wp2_with fail
      refine bodyPost_ret (rpaid_ret zero_ok HTz.out _ rfl rfl rfl) rfl ?_
      exact ⟨⟨zeroD, 0, rfl, zero_ok⟩, HBz.out⟩
    · rw [if_neg hy] at hQ
      have hyd : decide (1125899906842624 < y2) = false := by simp; omega
      by_cases hkn : k2 < n2
      · obtain rfl : P = 5 := by rwa [if_pos hkn] at hQ
        have hkn2 : (k2 : Int) < n2 := by omega
        clear hQ
        go_wp2_with (first
          | ((with_reducible refine wpList_build rfl 22 _ rfl #[] ?_ _ (rbuild_d0 _) ?_); focus (simp [Act.eval, Act.put]; done))
          | (with_reducible refine stop_store 22 _ _ rfl ?_))
        refine StopD.go ?_
        refine wpList_store_part rfl 22 _ _ rfl (z + 1) 0 (.agg (dl zeroD).toArray) (dl zeroD) rfl rfl rfl 22 [] (dl zeroD) [] HR8.out rfl (dg_lensd zero_ok) (rdg_szd zero_ok) (dl_one' _) ?_
        intro wz hp
        have HTz : Hid (Bk wz ((z + 1)) 22 (dl zeroD)) := by show Bk _ _ _ _; have := hp.bk; simpa using this
        have HBz := Lib.hid (below_only HB8.out hp.only HB8.out.size (by have := HZ.out; omega))
        clear hp
        go_wp2_with fail
        refine bodyPost_ret (rpaid_ret zero_ok HTz.out _ rfl rfl rfl) rfl ?_
        exact ⟨⟨zeroD, 0, rfl, zero_ok⟩, HBz.out⟩
      · obtain rfl : P = 0 := by rwa [if_neg hkn] at hQ
        have hkn2 : ¬ (k2 : Int) < n2 := by omega
        clear hQ
        go_wp2_with fail
        refine (rfrom_any R1.2 HNV.out.1 (Lib.hid HNV.out.2) w8).mono ?_
        rintro e w9 ⟨rfl, hbn⟩
        have hdo : DgOk (fromG R1.2) := fromG_ok _
        rw [show dgA (fromG R1.2) = (dl (fromG R1.2)).toArray from rfl]
        obtain ⟨d, hd⟩ : ∃ d, fromG R1.2 = d := ⟨_, rfl⟩
        rw [hd] at hdo ⊢
        have HDO := Lib.hid hdo
        have HR9 := Lib.hid (HR8.out.later hbn); have HB9 := Lib.hid (below_then HB8.out hbn)
        clear hd hdo hbn c0 c1' c2' HR8 HB8
        go_wp2_with (with_reducible refine stop_store 22 _ _ rfl ?_)
        refine StopD.go ?_
        refine wpList_store_part rfl 22 _ _ rfl (z + 1) 0 (.agg (dl d).toArray) (dl d) rfl rfl rfl 22 [] (dl zeroD) [] HR9.out rfl (dg_lensd HDO.out) (rdg_szd HDO.out) (dl_one' _) ?_
        intro wz hp
        have HTz : Hid (Bk wz ((z + 1)) 22 (dl d)) := by show Bk _ _ _ _; have := hp.bk; simpa using this
        have HBz := Lib.hid (below_only HB9.out hp.only HB9.out.size (by have := HZ.out; omega))
        clear hp
        go_wp2_with fail
        refine bodyPost_ret (rpaid_ret HDO.out HTz.out _ rfl rfl rfl) rfl ?_
        exact ⟨⟨d, _, rfl, HDO.out⟩, HBz.out⟩
  · have hQ : P = e2 := by have := HQ.out; rwa [if_pos he] at this
    subst hQ
    have hd3 : (P != 0) = true := by simp [he]
    clear he
    go_wp2_with fail
    refine wp_region_held_drew (S := fun w' => Bk w' g4 114 (rvl A2 n2 c2 k2 P)) (by kernel_rfl) (Bk.drew HV8.out) (fun hHeld => ?_)
    have hbn : Below w8.heap.size w8 w8.drew := below_draws w8 w8.heap.size 1
    obtain ⟨w9, hw9⟩ : ∃ wa, w8.drew = wa := ⟨_, rfl⟩
    rw [hw9] at hbn hHeld ⊢
    have HV9 := Lib.hid (HV8.out.later hbn); have HR9 := Lib.hid (HR8.out.later hbn); have HB9 := Lib.hid (below_then HB8.out hbn)
    clear hw9 hbn c0 c1' c2' HV8 HR8 HB8
    have HC2 : Hid (∀ w', Bk w' g4 114 (rvl A2 n2 c2 k2 P) → w'.cell? ⟨g4, 2, none⟩ = some (.int .i64 P)) := fun w' h => by rw [h.cell]; rfl
    refine wpAnyH_take (i := 0) (v := ?_) rfl (by kernel_rfl) (by kernel_rfl) (by kernel_rfl) (fun _ _ _ h => h) (Or.inl ⟨by rfl, ?_⟩) (by assumption) ?_
    rotate_left
    · intro w hSw
      (try dsimp only at hSw)
      go_simp
      try with_reducible rfl
    try simp only [Act.put, List.setIfInBounds_toArray, List.set_cons_zero, List.set_cons_succ, List.getElem_toArray, List.getElem_cons_zero, List.getElem_cons_succ]
    refine wpAnyH_take (i := 1) (v := ?_) rfl (by kernel_rfl) (by kernel_rfl) (by kernel_rfl) (fun _ _ _ h => h) (Or.inl ⟨by rfl, ?_⟩) (by assumption) ?_
    rotate_left
    · intro w hSw
      (try dsimp only at hSw)
      go_simp
      try with_reducible rfl
    try simp only [Act.put, List.setIfInBounds_toArray, List.set_cons_zero, List.set_cons_succ, List.getElem_toArray, List.getElem_cons_zero, List.getElem_cons_succ]
    refine wpAnyH_take (i := 2) (v := ?_) rfl (by kernel_rfl) (by kernel_rfl) (by kernel_rfl) (fun _ _ _ h => h) (Or.inl ⟨by rfl, ?_⟩) (by assumption) ?_
    rotate_left
    · intro w hSw
      have hcell := HC2.out _ hSw
      clear hSw
      go_simp
      try with_reducible rfl
    try simp only [Act.put, List.setIfInBounds_toArray, List.set_cons_zero, List.set_cons_succ, List.getElem_toArray, List.getElem_cons_zero, List.getElem_cons_succ]
    refine wpAnyH_ready (rs := [3]) (by kernel_rfl) (by simp) ?_
    refine AllReadyH.cons rfl (fun K hK => ?_) AllReadyH.nil
    rw [if_pos (by rfl)]
    refine wp_store_part _ _ _ rfl (z + 1) 0 _ (dl zeroD) rfl rfl rfl _ ([]) (dl zeroD) ([]) (by simpa using HR9.out) rfl rfl (rdg_szd zero_ok) (dl_one' _) ?_
    intro wz hp
    refine hK.out _ _ (HV9.out.grown hp.only (by intro e; injection e with e; have := HG4.out.2; omega)) (fun hHeld => ?_)
    clear hK K
    try simp only [Act.put, List.setIfInBounds_toArray, List.set_cons_zero, List.set_cons_succ, List.getElem_toArray, List.getElem_cons_zero, List.getElem_cons_succ]
    have HTz : Hid (Bk wz (z + 1) 22 (dl zeroD)) := by show Bk _ _ _ _; have := hp.bk; simpa using this
    have HBz := Lib.hid (below_only HB9.out hp.only HB9.out.size (by have := HZ.out; omega))
    clear hp
    refine wpAnyH_take (i := 4) (v := ?_) rfl (by kernel_rfl) (by kernel_rfl) (by kernel_rfl) (fun _ _ _ h => h) (Or.inl ⟨by rfl, ?_⟩) (by assumption) ?_
    rotate_left
    · intro w hSw
      (try dsimp only at hSw)
      go_simp
      try with_reducible rfl
    try simp only [Act.put, List.setIfInBounds_toArray, List.set_cons_zero, List.set_cons_succ, List.getElem_toArray, List.getElem_cons_zero, List.getElem_cons_succ]
    refine wpAnyH_take (i := 5) (v := ?_) rfl (by kernel_rfl) (by kernel_rfl) (by kernel_rfl) (fun _ _ _ h => h) (Or.inl ⟨by rfl, ?_⟩) (by assumption) ?_
    rotate_left
    · intro w hSw
      (try dsimp only at hSw)
      go_simp
      try with_reducible rfl
    try simp only [Act.put, List.setIfInBounds_toArray, List.set_cons_zero, List.set_cons_succ, List.getElem_toArray, List.getElem_cons_zero, List.getElem_cons_succ]
    refine wpAnyH_done rfl ?_ _
    go_wp2_with fail
    refine bodyPost_ret (rpaid_ret zero_ok HTz.out _ rfl rfl rfl) rfl ?_
    exact ⟨⟨zeroD, 0, rfl, zero_ok⟩, HBz.out⟩
end Go.Proofs.YtbpmomedhdmloaaGreatDoor
