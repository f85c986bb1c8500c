/- The law of bytes: the walk. -/
import Derived.Test.YthibihjblodfmaaQ17
namespace Go.Proofs.Ythibihjblodfmaa
open Go.RowKit

theorem num_byok {s : Rd} (hs : ByOk s.rest) (m : Int) : ByOk (numR s m).1.rest := by
  unfold numR
  split
  · split
    · split
      · exact hs.drop _
      · exact hs
    · exact hs
  · exact hs
theorem some_byok {s : Rd} (hs : ByOk s.rest) (m : Int) : ByOk (someR s m).1.rest := by
  unfold someR
  split
  · split
    · split
      · split
        · exact (hs.drop _).drop _
        · exact hs
      · exact hs
    · exact hs
  · exact hs
theorem dig_byok {s : Rd} (hs : ByOk s.rest) : ByOk (digD s).1.rest := by
  unfold digD
  split
  · split
    · exact some_byok hs 8
    · exact some_byok hs 8
  · exact some_byok hs 8
def TgOk (T : Tg) : Prop := DgOk T.t ∧ DgOk T.u ∧ DgOk T.v
theorem tg0_ok : TgOk tg0 := ⟨zero_ok, zero_ok, zero_ok⟩
theorem decEnd_ok {s : Rd} {T : List Int → Tg} (h : ∀ ss, TgOk (T ss)) : TgOk (decEnd s T).1 := by
  unfold decEnd; split
  · exact h _
  · exact tg0_ok
theorem decP_dg {bs : List Int} (ho : ByOk bs) : TgOk (decP bs).1 := by
  have h1 := num_byok (s := ⟨bs, 0⟩) ho 1
  have h2 := dig_byok h1
  have h3 := num_byok h2 1099511627776
  unfold decP
  split
  · unfold decP1
    split
    · exact decEnd_ok fun _ => ⟨digD_ok h1, zero_ok, zero_ok⟩
    · split
      · exact decEnd_ok fun _ => ⟨zero_ok, digD_ok h1, digD_ok h3⟩
      · exact tg0_ok
  · exact tg0_ok
def RetOf2 (T : Tg) (B : Option Addr) (M D : Nat) (w : World) (e : Ending) (w' : World) : Prop :=
  ∃ (A1 A2 : Option Addr) (N1 N2 C1 C2 : Nat), e = .returned (.agg (thC T.k T.n T.m T.t T.u T.v (.slice A1 N1 C1) (.slice A2 N2 C2) (.slice B M D)).toArray) ∧ Sls w' w'.heap.size A1 A2 B N1 N2 M T.ps T.qs T.ss ∧ Below w.heap.size w w'
theorem numB_byok {n : Nat} (h : n < 18446744073709551616) : ByOk (numB n) := num_ok 9 n (by show n < 128 ^ 10; omega)
theorem ByOk.app {xs ys : List Int} (h : ByOk xs) (h' : ByOk ys) : ByOk (xs ++ ys) := fun b hb => by
  rcases List.mem_append.1 hb with h1 | h1
  · exact h b h1
  · exact h' b h1
theorem enc_ok {k n : Int} {t v bs ss : List Int} (hk : k = 0 ∨ k = 1) (hn0 : 0 ≤ n) (hn1 : n ≤ 1099511627776) (ht : DgOk t) (hv : DgOk v) (hb : ByOk bs) (hs : ByOk ss) (hlb : bs.length ≤ 4096) (hls : ss.length ≤ 4096) :
    ByOk (encT k n t v bs ss) ∧ (encT k n t v bs ss).length ≤ 1073741824 := by
  have l0 := numB_len 0; have l1 := numB_len 1; have l8 := numB_len 8; have ln := numB_len n.toNat; have lb := numB_len bs.length; have ls := numB_len ss.length
  have lt := ht.len; have lv := hv.len
  rcases hk with rfl | rfl
  · rw [enc0]
    refine ⟨(numB_byok (by omega)).app ((numB_byok (by omega)).app (ht.byt.app ((numB_byok (by omega)).app ((numB_byok (by omega)).app (hb.app ((numB_byok (by omega)).app hs)))))), ?_⟩
    simp only [List.length_append]; omega
  · rw [enc1]
    refine ⟨(numB_byok (by omega)).app ((numB_byok (by omega)).app (ht.byt.app ((numB_byok (by omega)).app ((numB_byok (by omega)).app (hv.byt.app ((numB_byok (by omega)).app (hb.app ((numB_byok (by omega)).app hs)))))))), ?_⟩
    simp only [List.length_append]; omega
theorem toR_ok {T : Tg} (h : TgOk T) : DgOk (toR T).t ∧ DgOk (toR T).v := by
  unfold toR
  split
  · exact ⟨h.2.1, h.2.2⟩
  · exact ⟨h.1, zero_ok⟩
/-- What 'To' hands back. -/
def RetTo (T : Tg) (P1 P2 P3 : Option Addr) (m1 m2 m3 d3 : Nat) (w : World) (e : Ending) (w' : World) : Prop :=
  ∃ (Q : Option Addr) (q h : Nat), e = .returned (.agg (rtC (toR T).k (toR T).n (toR T).t (toR T).v (.slice Q q h) (.slice P3 m3 d3) false).toArray) ∧ Sl w' w'.heap.size 1 Q q ((toR T).bs.map (.int .u8)) ∧ Sl w' w'.heap.size 1 P3 m3 ((toR T).ss.map (.int .u8)) ∧ Below w.heap.size w w'
theorem to_rr (w : World) (T : Tg) (hT : TgOk T) (P1 P2 P3 : Option Addr) (m1 m2 m3 d1 d2 d3 : Nat) (hs : Sls w w.heap.size P1 P2 P3 m1 m2 m3 T.ps T.qs T.ss) :
    Calls Try.prog 23 #[.agg (thC T.k T.n T.m T.t T.u T.v (.slice P1 m1 d1) (.slice P2 m2 d2) (.slice P3 m3 d3)).toArray] w (RetTo T P1 P2 P3 m1 m2 m3 d3 w) := by
  refine (to_any w T.k T.n T.m T.t T.u T.v hT.1 hT.2.1 hT.2.2 P1 P2 P3 m1 d1 m2 d2 m3 d3).mono ?_
  rintro e w' ⟨rfl, hb⟩
  have h' := hs.later hb
  by_cases hk : T.k = 1
  · rw [if_pos hk]
    have e1 : toR T = ⟨T.k, T.m, T.u, T.v, T.qs, T.ss⟩ := by rw [toR, if_pos hk]
    unfold RetTo
    rw [e1]
    exact ⟨P2, m2, d2, rfl, h'.q, h'.s, hb⟩
  · rw [if_neg hk]
    have e1 : toR T = ⟨T.k, T.n, T.t, zeroD, T.ps, T.ss⟩ := by rw [toR, if_neg hk]
    unfold RetTo
    rw [e1]
    exact ⟨P1, m1, d1, rfl, h'.p, h'.s, hb⟩
set_option maxRecDepth 20000 in
set_option maxHeartbeats 16000000 in
theorem pbytes_any (w : World) (k n : Int) (t v : List Int) (ht : DgOk t) (hv : DgOk v) (o : Bool) (A B E : Option Addr) (N C M D L F : Nat) (bs ss xs : List Int) (hb : Sl w w.heap.size 1 A N (bs.map (.int .u8))) (hs : Sl w w.heap.size 1 B M (ss.map (.int .u8))) (hx : Sl w w.heap.size 1 E L (xs.map (.int .u8)))
    (hbo : ByOk bs) (hso : ByOk ss) (hxo : ByOk xs) (hLF : L ≤ F) :
    Calls Try.prog 3 #[.agg (rtC k n t v (.slice A N C) (.slice B M D) o).toArray, .slice E L F] w fun e w' => e = .returned (.bool true) ∧ Below w.heap.size w w' := by
  obtain ⟨X, hX⟩ : ∃ X, (rtC k n t v (.slice A N C) (.slice B M D) o).toArray = X := ⟨_, rfl⟩
  obtain ⟨w1, hw1⟩ : ∃ w1, w.alloc (.cells X 25) = w1 := ⟨_, rfl⟩
  have hb1 : Below w.heap.size w w1 := hw1 ▸ below_new w _
  have kx : Bk w1 w.heap.size 25 (rtC k n t v (.slice A N C) (.slice B M D) o) := hw1 ▸ Bk.new' w _ X (by rw [← hX])
  have HW := Lib.hid hw1; have HBB1 := Lib.hid hb1; have HK1 := Lib.hid kx; have HDT := Lib.hid ht; have HDV := Lib.hid hv
  have HX1 := Lib.hid (hb.later hb1); have HY1 := Lib.hid (hs.later hb1); have HE1 := Lib.hid (hx.later hb1)
  have HBO := Lib.hid hbo; have HSO := Lib.hid hso; have HXO := Lib.hid hxo
  have HTH : Hid ((Try.prog.info? 25).map (·.size) = some (rtC k n t v (.slice A N C) (.slice B M D) o).length) := by show _ = _; rw [rtC_len ht hv]; exact rt_size
  obtain ⟨S, hS⟩ : ∃ S, IntKind.i64.wrap ((N : Int) + M) = S := ⟨_, rfl⟩
  rw [hX]
  clear hX hw1 hb1 kx ht hv hb hs hx hbo hso hxo
  by_cases hbig : S ≤ 5000 ∧ L ≤ 5000
  · obtain ⟨hl1, hl2⟩ := hbig
    have a1 : decide ((5000 : Int) < S) = false := by simp; omega
    have a2 : decide ((5000 : Int) < (L : Int)) = false := by simp; omega
    have a3 : decide (5000 < L) = false := by simp; omega
    go_enter Try.func3, Try.ntmps3
    go_upto_region 1 with fail
    rw [HW.out]
    go_wp2_with fail
    refine (pknown_any _).mono ?_
    rintro e w2 ⟨rfl, hbn⟩
    have HBB2 := Lib.hid (below_then HBB1.out hbn)
    have HK2 := Lib.hid (HK1.out.later hbn)
    have HX2 := Lib.hid (HX1.out.later hbn); have HY2 := Lib.hid (HY1.out.later hbn); have HE2 := Lib.hid (HE1.out.later hbn)
    try have HP2 := Lib.hid (own_keep HP1.out hbn)
    try have HQ2 := Lib.hid (own_keep HQ1.out hbn)
    try have HZ2 := Lib.hid (HZ1.out.later hbn)
    try have HT2 := Lib.hid (HT1.out.later hbn)
    try have HS2 := Lib.hid (HS1.out.later hbn)
    try have HR2 := Lib.hid (HR1.out.later hbn)
    try have HU2 := Lib.hid (HU1.out.later hbn)
    try have HY2s := Lib.hid (HY1s.out.later hbn)
    have hz2 : w1.heap.size ≤ w2.heap.size := hbn.size
    clear hbn
    have c18 := (rt_mem HDT.out HDV.out HK2.out).c18
    have c19 := (rt_mem HDT.out HDV.out HK2.out).c19
    go_wp2_with (with_reducible refine wpList_load_bk rfl 25 _ rfl w.heap.size rfl (rtC k n t v (.slice A N C) (.slice B M D) o) 25 HK2.out _ Try.underlying25 rfl HTH.out ?_)
    refine (of_any _ k n t v HDT.out HDV.out A B N C M D o).mono ?_
    intro e w3 hof
    obtain ⟨T, A1, A2, N1, N2, C1, C2, rfl, ⟨hT1, hT2, hT3⟩, hsl, hchk, hTo, hbn⟩ := of_tg hof HDT.out HDV.out HX2.out HY2.out HBO.out HSO.out
    have HBB3 := Lib.hid (below_then HBB2.out hbn)
    have HK3 := Lib.hid (HK2.out.later hbn)
    have HX3 := Lib.hid (HX2.out.later hbn); have HY3 := Lib.hid (HY2.out.later hbn); have HE3 := Lib.hid (HE2.out.later hbn)
    try have HP3 := Lib.hid (own_keep HP2.out hbn)
    try have HQ3 := Lib.hid (own_keep HQ2.out hbn)
    try have HZ3 := Lib.hid (HZ2.out.later hbn)
    try have HT3 := Lib.hid (HT2.out.later hbn)
    try have HS3 := Lib.hid (HS2.out.later hbn)
    try have HR3 := Lib.hid (HR2.out.later hbn)
    try have HU3 := Lib.hid (HU2.out.later hbn)
    try have HY3s := Lib.hid (HY2s.out.later hbn)
    have hz3 : w2.heap.size ≤ w3.heap.size := hbn.size
    clear hbn
    have HSL3 := Lib.hid hsl; have HT1 := Lib.hid hT1; have HT2 := Lib.hid hT2; have HT3 := Lib.hid hT3; have HCH := Lib.hid hchk; have HTO := Lib.hid hTo
    clear hof hsl hT1 hT2 hT3 hchk hTo c18 c19
    go_wp2_with fail
    refine (encode_any _ T.k T.n T.m T.t T.u T.v HT1.out HT2.out HT3.out A1 A2 B N1 N2 M C1 C2 D T.ps T.qs T.ss HSL3.out).mono ?_
    obtain ⟨c0, hc0⟩ : ∃ c0, rcheckT k n N M o = c0 := ⟨_, rfl⟩
    rw [HCH.out, hc0]
    rintro e w4 ⟨hbn, v1, rfl, hown⟩
    obtain ⟨ex, hex⟩ : ∃ ex, (if c0 = 0 then encT k n t v bs ss else []) = ex := ⟨_, rfl⟩
    have hex' : (if c0 = 0 then encT T.k (placeN T.k T.n T.m) (placeT T.k T.t T.u) (placeA T.k T.v) (textT T.k T.ps T.qs) T.ss else []) = ex := by
      rw [← hex]
      split
      · rename_i h0
        exact ofT_enc (rcheck_zero (hc0.trans h0)).1 (HTO.out (hc0.trans h0))
      · rfl
    rw [hex'] at hown
    obtain ⟨A4, c4, rfl⟩ := own_form hown
    have HP4 := Lib.hid hown
    have HEX := Lib.hid hex; have HC0 := Lib.hid hc0
    have HBB4 := Lib.hid (below_then HBB3.out hbn)
    have HK4 := Lib.hid (HK3.out.later hbn)
    have HX4 := Lib.hid (HX3.out.later hbn); have HY4 := Lib.hid (HY3.out.later hbn); have HE4 := Lib.hid (HE3.out.later hbn)
    try have HP4 := Lib.hid (own_keep HP3.out hbn)
    try have HQ4 := Lib.hid (own_keep HQ3.out hbn)
    try have HZ4 := Lib.hid (HZ3.out.later hbn)
    try have HT4 := Lib.hid (HT3.out.later hbn)
    try have HS4 := Lib.hid (HS3.out.later hbn)
    try have HR4 := Lib.hid (HR3.out.later hbn)
    try have HU4 := Lib.hid (HU3.out.later hbn)
    try have HY4s := Lib.hid (HY3s.out.later hbn)
    have hz4 : w3.heap.size ≤ w4.heap.size := hbn.size
    clear hbn
    clear hown hex hex' hc0
    go_wp2_with (with_reducible refine wpList_load_bk rfl 25 _ rfl w.heap.size rfl (rtC k n t v (.slice A N C) (.slice B M D) o) 25 HK4.out _ Try.underlying25 rfl HTH.out ?_)
    refine (rencode_any _ k n t v HDT.out HDV.out A B N C M D o bs ss HX4.out HY4.out).mono ?_
    rw [HC0.out]
    rintro e w5 ⟨hbn, v2, rfl, hown⟩
    rw [HEX.out] at hown
    obtain ⟨A5, c5, rfl⟩ := own_form hown
    have HQ5 := Lib.hid hown
    have HBB5 := Lib.hid (below_then HBB4.out hbn)
    have HK5 := Lib.hid (HK4.out.later hbn)
    have HX5 := Lib.hid (HX4.out.later hbn); have HY5 := Lib.hid (HY4.out.later hbn); have HE5 := Lib.hid (HE4.out.later hbn)
    try have HP5 := Lib.hid (own_keep HP4.out hbn)
    try have HQ5 := Lib.hid (own_keep HQ4.out hbn)
    try have HZ5 := Lib.hid (HZ4.out.later hbn)
    try have HT5 := Lib.hid (HT4.out.later hbn)
    try have HS5 := Lib.hid (HS4.out.later hbn)
    try have HR5 := Lib.hid (HR4.out.later hbn)
    try have HU5 := Lib.hid (HU4.out.later hbn)
    try have HY5s := Lib.hid (HY4s.out.later hbn)
    have hz5 : w4.heap.size ≤ w5.heap.size := hbn.size
    clear hbn
    clear hown
    go_wp2_with fail
    refine (pdecode_any _ E L F xs HXO.out HE5.out (by omega)).mono ?_
    rintro e w6 ⟨P1, P2, P3, m1, m2, m3, d1, d2, d3, rfl, hsl, hbn⟩
    obtain ⟨dp, hdp⟩ : ∃ dp, decP xs = dp := ⟨_, rfl⟩
    rw [hdp] at hsl ⊢
    have HDP := Lib.hid hdp
    have HDO : Hid (TgOk dp.1) := by show TgOk _; rw [← hdp]; exact decP_dg HXO.out
    have HZ6 := Lib.hid hsl
    have HBB6 := Lib.hid (below_then HBB5.out hbn)
    have HK6 := Lib.hid (HK5.out.later hbn)
    have HX6 := Lib.hid (HX5.out.later hbn); have HY6 := Lib.hid (HY5.out.later hbn); have HE6 := Lib.hid (HE5.out.later hbn)
    try have HP6 := Lib.hid (own_keep HP5.out hbn)
    try have HQ6 := Lib.hid (own_keep HQ5.out hbn)
    try have HZ6 := Lib.hid (HZ5.out.later hbn)
    try have HT6 := Lib.hid (HT5.out.later hbn)
    try have HS6 := Lib.hid (HS5.out.later hbn)
    try have HR6 := Lib.hid (HR5.out.later hbn)
    try have HU6 := Lib.hid (HU5.out.later hbn)
    try have HY6s := Lib.hid (HY5s.out.later hbn)
    have hz6 : w5.heap.size ≤ w6.heap.size := hbn.size
    clear hbn
    clear hdp hsl
    go_wp2_with (with_reducible refine stop_store 35 _ _ rfl ?_)
    refine StopD.go ?_
    obtain ⟨g2, hg2⟩ : ∃ g, w6.heap.size = g := ⟨_, rfl⟩
    have hbn : Below w6.heap.size w6 (w6.alloc (.cells #[.int .i64 0, .int .u8 0, .int .u8 0, .int .u8 0, .int .u8 0, .int .u8 0, .int .u8 0, .int .u8 0, .int .u8 0, .int .i64 0, .slice none 0 0, .int .u8 0, .int .u8 0, .int .u8 0, .int .u8 0, .int .u8 0, .int .u8 0, .int .u8 0, .int .u8 0, .int .i64 0, .int .u8 0, .int .u8 0, .int .u8 0, .int .u8 0, .int .u8 0, .int .u8 0, .int .u8 0, .int .u8 0, .slice none 0 0, .slice none 0 0] 35)) := below_new w6 _
    have kt : Bk (w6.alloc (.cells #[.int .i64 0, .int .u8 0, .int .u8 0, .int .u8 0, .int .u8 0, .int .u8 0, .int .u8 0, .int .u8 0, .int .u8 0, .int .i64 0, .slice none 0 0, .int .u8 0, .int .u8 0, .int .u8 0, .int .u8 0, .int .u8 0, .int .u8 0, .int .u8 0, .int .u8 0, .int .i64 0, .int .u8 0, .int .u8 0, .int .u8 0, .int .u8 0, .int .u8 0, .int .u8 0, .int .u8 0, .int .u8 0, .slice none 0 0, .slice none 0 0] 35)) g2 35 ([] ++ (thC 0 0 0 zeroD zeroD zeroD (.slice none 0 0) (.slice none 0 0) (.slice none 0 0) ++ [])) := by rw [← hg2]; exact Bk.new' w6 _ #[.int .i64 0, .int .u8 0, .int .u8 0, .int .u8 0, .int .u8 0, .int .u8 0, .int .u8 0, .int .u8 0, .int .u8 0, .int .i64 0, .slice none 0 0, .int .u8 0, .int .u8 0, .int .u8 0, .int .u8 0, .int .u8 0, .int .u8 0, .int .u8 0, .int .u8 0, .int .i64 0, .int .u8 0, .int .u8 0, .int .u8 0, .int .u8 0, .int .u8 0, .int .u8 0, .int .u8 0, .int .u8 0, .slice none 0 0, .slice none 0 0] rfl
    obtain ⟨cy, hcy⟩ : ∃ cy, thC dp.1.k dp.1.n dp.1.m dp.1.t dp.1.u dp.1.v (.slice P1 m1 d1) (.slice P2 m2 d2) (.slice P3 m3 d3) = cy := ⟨_, rfl⟩
    have HCY := Lib.hid hcy
    have HCY30 : Hid (cy.length = 30) := by show _ = _; rw [← hcy, thC_len HDO.out.1 HDO.out.2.1 HDO.out.2.2]
    have HCYS : Hid ((Try.prog.info? 35).map (·.size) = some cy.length) := by show _ = _; rw [HCY30.out]; exact th_size
    have hcy1 : ∀ x ∈ cy, x.oneCell' = true := by rw [← hcy]; exact th_one
    rw [hcy, hg2]
    refine wpList_store_part rfl 35 _ _ rfl g2 0 (.agg cy.toArray) cy rfl rfl rfl 35 [] _ [] kt rfl (by rw [HCY30.out]; rfl) HCYS.out hcy1 ?_
    intro w7 hp
    have hbn : Below w6.heap.size w6 w7 := hbn.grown hp.only hbn.size (fun q hq => by injection hq with hq; omega)
    have HT7 : Hid (Bk w7 g2 35 cy) := by show Bk _ _ _ _; have := hp.bk; simpa using this
    have HBB7 := Lib.hid (below_then HBB6.out hbn)
    have HK7 := Lib.hid (HK6.out.later hbn)
    have HX7 := Lib.hid (HX6.out.later hbn); have HY7 := Lib.hid (HY6.out.later hbn); have HE7 := Lib.hid (HE6.out.later hbn)
    try have HP7 := Lib.hid (own_keep HP6.out hbn)
    try have HQ7 := Lib.hid (own_keep HQ6.out hbn)
    try have HZ7 := Lib.hid (HZ6.out.later hbn)
    try have HT7 := Lib.hid (HT6.out.later hbn)
    try have HS7 := Lib.hid (HS6.out.later hbn)
    try have HR7 := Lib.hid (HR6.out.later hbn)
    try have HU7 := Lib.hid (HU6.out.later hbn)
    try have HY7s := Lib.hid (HY6s.out.later hbn)
    have hz7 : w6.heap.size ≤ w7.heap.size := hbn.size
    clear hbn
    clear hp kt hg2 hcy hcy1
    go_wp2_with fail
    refine (rdecode_any _ E L F xs HXO.out HE7.out (by omega) hLF).mono ?_
    rintro e w8 ⟨R1, R2, r1, e1, r2, e2, rfl, hs1, hs2, -, -, hbn⟩
    have hag := dec_agree xs HXO.out
    rw [HDP.out] at hag
    have hag1 : (decR xs).1 = toR dp.1 := by rw [hag]
    have hag2 : (decR xs).2 = dp.2 := by rw [hag]
    obtain ⟨rr, hrr⟩ : ∃ rr, toR dp.1 = rr := ⟨_, rfl⟩
    rw [hag1, hrr] at hs1 hs2 ⊢
    rw [hag2]
    have HRR := Lib.hid hrr
    have HRO : Hid (DgOk rr.t ∧ DgOk rr.v) := by show _ ∧ _; rw [← hrr]; exact toR_ok HDO.out
    have HS8 := Lib.hid hs1; have HR8 := Lib.hid hs2
    have HBB8 := Lib.hid (below_then HBB7.out hbn)
    have HK8 := Lib.hid (HK7.out.later hbn)
    have HX8 := Lib.hid (HX7.out.later hbn); have HY8 := Lib.hid (HY7.out.later hbn); have HE8 := Lib.hid (HE7.out.later hbn)
    try have HP8 := Lib.hid (own_keep HP7.out hbn)
    try have HQ8 := Lib.hid (own_keep HQ7.out hbn)
    try have HZ8 := Lib.hid (HZ7.out.later hbn)
    try have HT8 := Lib.hid (HT7.out.later hbn)
    try have HS8 := Lib.hid (HS7.out.later hbn)
    try have HR8 := Lib.hid (HR7.out.later hbn)
    try have HU8 := Lib.hid (HU7.out.later hbn)
    try have HY8s := Lib.hid (HY7s.out.later hbn)
    have hz8 : w7.heap.size ≤ w8.heap.size := hbn.size
    clear hbn
    clear hag hag1 hag2 hrr hs1 hs2
    go_wp2_with (with_reducible refine stop_store 25 _ _ rfl ?_)
    refine StopD.go ?_
    obtain ⟨g3, hg3⟩ : ∃ g, w8.heap.size = g := ⟨_, rfl⟩
    have hbn : Below w8.heap.size w8 (w8.alloc (.cells #[.int .i64 0, .int .u8 0, .int .u8 0, .int .u8 0, .int .u8 0, .int .u8 0, .int .u8 0, .int .u8 0, .int .u8 0, .int .i64 0, .int .u8 0, .int .u8 0, .int .u8 0, .int .u8 0, .int .u8 0, .int .u8 0, .int .u8 0, .int .u8 0, .slice none 0 0, .slice none 0 0, .bool false] 25)) := below_new w8 _
    have kt : Bk (w8.alloc (.cells #[.int .i64 0, .int .u8 0, .int .u8 0, .int .u8 0, .int .u8 0, .int .u8 0, .int .u8 0, .int .u8 0, .int .u8 0, .int .i64 0, .int .u8 0, .int .u8 0, .int .u8 0, .int .u8 0, .int .u8 0, .int .u8 0, .int .u8 0, .int .u8 0, .slice none 0 0, .slice none 0 0, .bool false] 25)) g3 25 ([] ++ (rtC 0 0 zeroD zeroD (.slice none 0 0) (.slice none 0 0) false ++ [])) := by rw [← hg3]; exact Bk.new' w8 _ #[.int .i64 0, .int .u8 0, .int .u8 0, .int .u8 0, .int .u8 0, .int .u8 0, .int .u8 0, .int .u8 0, .int .u8 0, .int .i64 0, .int .u8 0, .int .u8 0, .int .u8 0, .int .u8 0, .int .u8 0, .int .u8 0, .int .u8 0, .int .u8 0, .slice none 0 0, .slice none 0 0, .bool false] rfl
    obtain ⟨cr, hcr⟩ : ∃ cr, rtC rr.k rr.n rr.t rr.v (.slice R1 r1 e1) (.slice R2 r2 e2) false = cr := ⟨_, rfl⟩
    have HCR := Lib.hid hcr
    have HCR21 : Hid (cr.length = 21) := by show _ = _; rw [← hcr, rtC_len HRO.out.1 HRO.out.2]
    have HCRS : Hid ((Try.prog.info? 25).map (·.size) = some cr.length) := by show _ = _; rw [HCR21.out]; exact rt_size
    have hcr1 : ∀ x ∈ cr, x.oneCell' = true := by rw [← hcr]; exact rt_one
    rw [hcr, hg3]
    refine wpList_store_part rfl 25 _ _ rfl g3 0 (.agg cr.toArray) cr rfl rfl rfl 25 [] _ [] kt rfl (by rw [HCR21.out]; rfl) HCRS.out hcr1 ?_
    intro w9 hp
    have hbn : Below w8.heap.size w8 w9 := hbn.grown hp.only hbn.size (fun q hq => by injection hq with hq; omega)
    have HU9 : Hid (Bk w9 g3 25 cr) := by show Bk _ _ _ _; have := hp.bk; simpa using this
    have HBB9 := Lib.hid (below_then HBB8.out hbn)
    have HK9 := Lib.hid (HK8.out.later hbn)
    have HX9 := Lib.hid (HX8.out.later hbn); have HY9 := Lib.hid (HY8.out.later hbn); have HE9 := Lib.hid (HE8.out.later hbn)
    try have HP9 := Lib.hid (own_keep HP8.out hbn)
    try have HQ9 := Lib.hid (own_keep HQ8.out hbn)
    try have HZ9 := Lib.hid (HZ8.out.later hbn)
    try have HT9 := Lib.hid (HT8.out.later hbn)
    try have HS9 := Lib.hid (HS8.out.later hbn)
    try have HR9 := Lib.hid (HR8.out.later hbn)
    try have HU9 := Lib.hid (HU8.out.later hbn)
    try have HY9s := Lib.hid (HY8s.out.later hbn)
    have hz9 : w8.heap.size ≤ w9.heap.size := hbn.size
    clear hbn
    clear hp kt hg3 hcr hcr1
    have HF4 := Lib.hid (Sl.of_own HP9.out)
    have HF5 := Lib.hid (Sl.of_own HQ9.out)
    have HTOC : Hid (∀ W, Below w9.heap.size w9 W → Calls Try.prog 23 #[.agg cy.toArray] W (RetTo dp.1 P1 P2 P3 m1 m2 m3 d3 W)) := fun W hW => by rw [← HCY.out]; exact to_rr W dp.1 HDO.out P1 P2 P3 m1 m2 m3 d1 d2 d3 (HZ9.out.later hW)
    have HSMC : Hid (∀ (W : World) (Q : Option Addr) (q h : Nat), Below w9.heap.size w9 W → Sl W W.heap.size 1 Q q (rr.bs.map (.int .u8)) → Sl W W.heap.size 1 P3 m3 (rr.ss.map (.int .u8)) → Calls Try.prog 22 #[.agg (rtC rr.k rr.n rr.t rr.v (.slice Q q h) (.slice P3 m3 d3) false).toArray, .agg cr.toArray] W (fun e w' => e = .returned (.bool true) ∧ Below W.heap.size W w')) := fun W Q q h hW h1 h2 => by
      rw [← HCR.out]
      exact rsame_any W rr.k rr.n rr.t rr.v rr.v false HRO.out.1 HRO.out.2 HRO.out.2 rfl Q P3 R1 R2 q h m3 d3 r1 e1 r2 e2 rr.bs rr.ss h1 h2 (HS9.out.later hW) (HR9.out.later hW)
    go_wp2_with fail
    obtain ⟨Bd, hBd⟩ : ∃ Bd, w9.heap.size = Bd := ⟨_, rfl⟩
    have HF4' : Hid (Sl w9 Bd 1 A4 ex.length (ex.map (.int .u8))) := by show Sl _ _ _ _ _ _; rw [← hBd]; exact HF4.out
    have HF5' : Hid (Sl w9 Bd 1 A5 ex.length (ex.map (.int .u8))) := by show Sl _ _ _ _ _ _; rw [← hBd]; exact HF5.out
    refine wp_region_held_drew (S := fun w' => Bk w' g2 35 cy ∧ Bk w' g3 25 cr ∧ Sl w' Bd 1 A4 ex.length (ex.map (.int .u8)) ∧ Sl w' Bd 1 A5 ex.length (ex.map (.int .u8))) (by kernel_rfl) ⟨Bk.drew HT9.out, Bk.drew HU9.out, HF4'.out.drew, HF5'.out.drew⟩ (fun hHeld => ?_)
    refine wpAnyH_take (i := 0) (v := ?_) rfl (by kernel_rfl) (by kernel_rfl) (by kernel_rfl) (fun _ _ _ h => h) (Or.inl ⟨by rfl, ?_⟩) (by assumption) ?_
    rotate_left
    · intro w hSw
      (try dsimp only at hSw)
      go_simp
      try with_reducible rfl
    try simp only [Act.put, List.setIfInBounds_toArray, List.set_cons_zero, List.set_cons_succ, List.getElem_toArray, List.getElem_cons_zero, List.getElem_cons_succ]
    refine wpAnyH_take (i := 1) (v := ?_) rfl (by kernel_rfl) (by kernel_rfl) (by kernel_rfl) (fun _ _ _ h => h) (Or.inl ⟨by rfl, ?_⟩) (by assumption) ?_
    rotate_left
    · intro w hSw
      (try dsimp only at hSw)
      go_simp
      try with_reducible rfl
    try simp only [Act.put, List.setIfInBounds_toArray, List.set_cons_zero, List.set_cons_succ, List.getElem_toArray, List.getElem_cons_zero, List.getElem_cons_succ]
    refine wpAnyH_take (i := 2) (v := ?_) rfl (by kernel_rfl) (by kernel_rfl) (by kernel_rfl) (fun _ _ _ h => h) (Or.inl ⟨by rfl, ?_⟩) (by assumption) ?_
    rotate_left
    · intro w hSw
      (try dsimp only at hSw)
      go_simp
      try with_reducible rfl
    try simp only [Act.put, List.setIfInBounds_toArray, List.set_cons_zero, List.set_cons_succ, List.getElem_toArray, List.getElem_cons_zero, List.getElem_cons_succ]
    refine wpAnyH_take (i := 3) (v := ?_) rfl (by kernel_rfl) (by kernel_rfl) (by kernel_rfl) (fun _ _ _ h => h) (Or.inl ⟨by rfl, ?_⟩) (by assumption) ?_
    rotate_left
    · intro w hSw
      (try dsimp only at hSw)
      go_simp
      try with_reducible rfl
    try simp only [Act.put, List.setIfInBounds_toArray, List.set_cons_zero, List.set_cons_succ, List.getElem_toArray, List.getElem_cons_zero, List.getElem_cons_succ]
    refine wpAnyH_take (i := 4) (v := ?_) rfl (by kernel_rfl) (by kernel_rfl) (by kernel_rfl) (fun _ _ _ h => h) (Or.inl ⟨by rfl, ?_⟩) (by assumption) ?_
    rotate_left
    · intro w hSw
      (try dsimp only at hSw)
      go_simp
      try with_reducible rfl
    try simp only [Act.put, List.setIfInBounds_toArray, List.set_cons_zero, List.set_cons_succ, List.getElem_toArray, List.getElem_cons_zero, List.getElem_cons_succ]
    refine wpAnyH_take (i := 5) (v := ?_) rfl (by kernel_rfl) (by kernel_rfl) (by kernel_rfl) (fun _ _ _ h => h) (Or.inl ⟨by rfl, ?_⟩) (by assumption) ?_
    rotate_left
    · intro w hSw
      have hcell := (conv_any w _ _ _ c4 _ hSw.2.2.1)
      clear hSw
      go_simp
      try with_reducible rfl
    try simp only [Act.put, List.setIfInBounds_toArray, List.set_cons_zero, List.set_cons_succ, List.getElem_toArray, List.getElem_cons_zero, List.getElem_cons_succ]
    refine wpAnyH_take (i := 6) (v := ?_) rfl (by kernel_rfl) (by kernel_rfl) (by kernel_rfl) (fun _ _ _ h => h) (Or.inl ⟨by rfl, ?_⟩) (by assumption) ?_
    rotate_left
    · intro w hSw
      (try dsimp only at hSw)
      go_simp
      try with_reducible rfl
    try simp only [Act.put, List.setIfInBounds_toArray, List.set_cons_zero, List.set_cons_succ, List.getElem_toArray, List.getElem_cons_zero, List.getElem_cons_succ]
    refine wpAnyH_take (i := 7) (v := ?_) rfl (by kernel_rfl) (by kernel_rfl) (by kernel_rfl) (fun _ _ _ h => h) (Or.inl ⟨by rfl, ?_⟩) (by assumption) ?_
    rotate_left
    · intro w hSw
      have hcell := (conv_any w _ _ _ c5 _ hSw.2.2.2)
      clear hSw
      go_simp
      try with_reducible rfl
    try simp only [Act.put, List.setIfInBounds_toArray, List.set_cons_zero, List.set_cons_succ, List.getElem_toArray, List.getElem_cons_zero, List.getElem_cons_succ]
    refine wpAnyH_take (i := 8) (v := ?_) rfl (by kernel_rfl) (by kernel_rfl) (by kernel_rfl) (fun _ _ _ h => h) (Or.inl ⟨by rfl, ?_⟩) (by assumption) ?_
    rotate_left
    · intro w hSw
      (try dsimp only at hSw)
      go_simp
      try with_reducible rfl
    try simp only [Act.put, List.setIfInBounds_toArray, List.set_cons_zero, List.set_cons_succ, List.getElem_toArray, List.getElem_cons_zero, List.getElem_cons_succ]
    refine wpAnyH_take (i := 9) (v := ?_) rfl (by kernel_rfl) (by kernel_rfl) (by kernel_rfl) (fun _ _ _ h => h) (Or.inl ⟨by rfl, ?_⟩) (by assumption) ?_
    rotate_left
    · intro w hSw
      (try dsimp only at hSw)
      go_simp
      try with_reducible rfl
    try simp only [Act.put, List.setIfInBounds_toArray, List.set_cons_zero, List.set_cons_succ, List.getElem_toArray, List.getElem_cons_zero, List.getElem_cons_succ]
    refine wpAnyH_take (i := 10) (v := ?_) rfl (by kernel_rfl) (by kernel_rfl) (by kernel_rfl) (fun _ _ _ h => h) (Or.inl ⟨by rfl, ?_⟩) (by assumption) ?_
    rotate_left
    · intro w hSw
      (try dsimp only at hSw)
      go_simp
      try with_reducible rfl
    try simp only [Act.put, List.setIfInBounds_toArray, List.set_cons_zero, List.set_cons_succ, List.getElem_toArray, List.getElem_cons_zero, List.getElem_cons_succ]
    refine wpAnyH_take (i := 11) (v := ?_) rfl (by kernel_rfl) (by kernel_rfl) (by kernel_rfl) (fun _ _ _ h => h) (Or.inl ⟨by rfl, ?_⟩) (by assumption) ?_
    rotate_left
    · intro w hSw
      (try dsimp only at hSw)
      go_simp
      try with_reducible rfl
    try simp only [Act.put, List.setIfInBounds_toArray, List.set_cons_zero, List.set_cons_succ, List.getElem_toArray, List.getElem_cons_zero, List.getElem_cons_succ]
    refine wpAnyH_take (i := 12) (v := ?_) rfl (by kernel_rfl) (by kernel_rfl) (by kernel_rfl) (fun _ _ _ h => h) (Or.inl ⟨by rfl, ?_⟩) (by assumption) ?_
    rotate_left
    · intro w hSw
      (try dsimp only at hSw)
      go_simp
      try with_reducible rfl
    try simp only [Act.put, List.setIfInBounds_toArray, List.set_cons_zero, List.set_cons_succ, List.getElem_toArray, List.getElem_cons_zero, List.getElem_cons_succ]
    refine wpAnyH_take (i := 13) (v := ?_) rfl (by kernel_rfl) (by kernel_rfl) (by kernel_rfl) (fun _ _ _ h => h) (Or.inl ⟨by rfl, ?_⟩) (by assumption) ?_
    rotate_left
    · intro w hSw
      (try dsimp only at hSw)
      go_simp
      try with_reducible rfl
    try simp only [Act.put, List.setIfInBounds_toArray, List.set_cons_zero, List.set_cons_succ, List.getElem_toArray, List.getElem_cons_zero, List.getElem_cons_succ]
    refine wpAnyH_take (i := 14) (v := ?_) rfl (by kernel_rfl) (by kernel_rfl) (by kernel_rfl) (fun _ _ _ h => h) (Or.inl ⟨by rfl, ?_⟩) (by assumption) ?_
    rotate_left
    · intro w hSw
      (try dsimp only at hSw)
      go_simp
      try with_reducible rfl
    try simp only [Act.put, List.setIfInBounds_toArray, List.set_cons_zero, List.set_cons_succ, List.getElem_toArray, List.getElem_cons_zero, List.getElem_cons_succ]
    refine wpAnyH_take (i := 15) (v := ?_) rfl (by kernel_rfl) (by kernel_rfl) (by kernel_rfl) (fun _ _ _ h => h) (Or.inl ⟨by rfl, ?_⟩) (by assumption) ?_
    rotate_left
    · intro w hSw
      (try dsimp only at hSw)
      go_simp
      try with_reducible rfl
    try simp only [Act.put, List.setIfInBounds_toArray, List.set_cons_zero, List.set_cons_succ, List.getElem_toArray, List.getElem_cons_zero, List.getElem_cons_succ]
    refine wpAnyH_take (i := 16) (v := .agg (List.toArray (cy))) rfl (by kernel_rfl) (by kernel_rfl) (by kernel_rfl) (fun _ _ _ h => h) (yieldsIf_load_mid (by rfl) _ _ rfl _ _ rfl (cy) _ (fun w hSw => (Bk.range (pre := []) (post := []) (by simpa using hSw.1) rfl)) Try.underlying35 rfl (HCYS.out)) (by assumption) ?_
    try simp only [Act.put, List.setIfInBounds_toArray, List.set_cons_zero, List.set_cons_succ, List.getElem_toArray, List.getElem_cons_zero, List.getElem_cons_succ]
    refine wpAnyH_take (i := 18) (v := .agg (List.toArray (cr))) rfl (by kernel_rfl) (by kernel_rfl) (by kernel_rfl) (fun _ _ _ h => h) (yieldsIf_load_mid (by rfl) _ _ rfl _ _ rfl (cr) _ (fun w hSw => (Bk.range (pre := []) (post := []) (by simpa using hSw.2.1) rfl)) Try.underlying25 rfl (HCRS.out)) (by assumption) ?_
    try simp only [Act.put, List.setIfInBounds_toArray, List.set_cons_zero, List.set_cons_succ, List.getElem_toArray, List.getElem_cons_zero, List.getElem_cons_succ]
    refine wpAnyH_ready (rs := [17]) (by kernel_rfl) (by simp) ?_
    refine AllReadyH.cons rfl (fun K hK => ?_) AllReadyH.nil
    go_simp
    (go_at_call 23; refine (HTOC.out _ (below_draws w9 w9.heap.size 1)).mono ?_; rintro e w10 ⟨Q, q, h, rfl, hq, hs3, hb⟩; rw [HRR.out] at hq hs3 ⊢; have hbn := (below_draws w9 w9.heap.size 1).trans hb; have HBN := Lib.hid hbn; have HQ10 := Lib.hid hq; have HR10s := Lib.hid hs3; clear hb hq hs3 hbn)
    refine hK.out _ _ (⟨HT9.out.later HBN.out, HU9.out.later HBN.out, HF4'.out.below (hBd ▸ HBN.out), HF5'.out.below (hBd ▸ HBN.out)⟩) (fun hHeld => ?_)
    clear hK K
    try simp only [Act.put, List.setIfInBounds_toArray, List.set_cons_zero, List.set_cons_succ, List.getElem_toArray, List.getElem_cons_zero, List.getElem_cons_succ]
    refine wpAnyH_ready (rs := [19]) (by kernel_rfl) (by simp) ?_
    refine AllReadyH.cons rfl (fun K hK => ?_) AllReadyH.nil
    go_simp
    (go_at_call 22; refine (HSMC.out _ Q q h HBN.out HQ10.out HR10s.out).mono ?_; rintro e w11 ⟨rfl, hb⟩; have hbn := HBN.out.trans (hb.mono HBN.out.size); have HBM := Lib.hid hbn; clear hb hbn)
    refine hK.out _ _ (⟨HT9.out.later HBM.out, HU9.out.later HBM.out, HF4'.out.below (hBd ▸ HBM.out), HF5'.out.below (hBd ▸ HBM.out)⟩) (fun hHeld => ?_)
    clear hK K
    try simp only [Act.put, List.setIfInBounds_toArray, List.set_cons_zero, List.set_cons_succ, List.getElem_toArray, List.getElem_cons_zero, List.getElem_cons_succ]
    refine wpAnyH_take (i := 20) (v := ?_) rfl (by kernel_rfl) (by kernel_rfl) (by kernel_rfl) (fun _ _ _ h => h) (Or.inl ⟨by rfl, ?_⟩) (by assumption) ?_
    rotate_left
    · intro w hSw
      (try dsimp only at hSw)
      go_simp
      try with_reducible rfl
    try simp only [Act.put, List.setIfInBounds_toArray, List.set_cons_zero, List.set_cons_succ, List.getElem_toArray, List.getElem_cons_zero, List.getElem_cons_succ]
    refine wpAnyH_take (i := 21) (v := ?_) rfl (by kernel_rfl) (by kernel_rfl) (by kernel_rfl) (fun _ _ _ h => h) (Or.inl ⟨by rfl, ?_⟩) (by assumption) ?_
    rotate_left
    · intro w hSw
      (try dsimp only at hSw)
      go_simp
      try with_reducible rfl
    try simp only [Act.put, List.setIfInBounds_toArray, List.set_cons_zero, List.set_cons_succ, List.getElem_toArray, List.getElem_cons_zero, List.getElem_cons_succ]
    refine wpAnyH_done (by kernel_rfl) ?_ _
    clear hHeld HQ10 HR10s
    have hbn := HBM.out
    have HBB11 := Lib.hid (below_then HBB9.out hbn)
    have HK11 := Lib.hid (HK9.out.later hbn)
    have HX11 := Lib.hid (HX9.out.later hbn); have HY11 := Lib.hid (HY9.out.later hbn); have HE11 := Lib.hid (HE9.out.later hbn)
    try have HP11 := Lib.hid (own_keep HP9.out hbn)
    try have HQ11 := Lib.hid (own_keep HQ9.out hbn)
    try have HZ11 := Lib.hid (HZ9.out.later hbn)
    try have HT11 := Lib.hid (HT9.out.later hbn)
    try have HS11 := Lib.hid (HS9.out.later hbn)
    try have HR11 := Lib.hid (HR9.out.later hbn)
    try have HU11 := Lib.hid (HU9.out.later hbn)
    try have HY11s := Lib.hid (HY9s.out.later hbn)
    have hz11 : w9.heap.size ≤ w11.heap.size := hbn.size
    clear hbn
    have HENC : Hid (dp.2 = 0 → ∀ W, Below w11.heap.size w11 W → Calls Try.prog 18 #[.agg cy.toArray] W (RetEnc 0 xs W)) := fun h0 W hW => by
      have hed := enc_dec HXO.out (by rw [HDP.out]; exact h0) (T := dp.1) (by rw [HDP.out])
      have := encode_any W dp.1.k dp.1.n dp.1.m dp.1.t dp.1.u dp.1.v HDO.out.1 HDO.out.2.1 HDO.out.2.2 P1 P2 P3 m1 m2 m3 d1 d2 d3 dp.1.ps dp.1.qs dp.1.ss (HZ11.out.later hW)
      rw [hed.1, hed.2, HCY.out] at this
      exact this
    have HSAM : Hid (dp.2 ≠ 0 → ∀ W, Below w11.heap.size w11 W → Calls Try.prog 24 #[.agg cy.toArray, .agg (thC 0 0 0 zeroD zeroD zeroD (.slice none 0 0) (.slice none 0 0) (.slice none 0 0)).toArray] W (fun e w' => e = .returned (.bool true) ∧ Below W.heap.size W w')) := fun h0 W hW => by
      have hz0 : dp.1 = tg0 := by have := decP_zero (bs := xs) (by rw [HDP.out]; exact h0); rw [HDP.out] at this; exact this
      have hz := HZ11.out.later hW
      have hc := HCY.out
      rw [hz0] at hz hc
      rw [← hc]
      exact same_any W 0 0 0 zeroD zeroD zeroD zero_ok zero_ok zero_ok P1 P2 P3 none none none m1 m2 m3 d1 d2 d3 0 0 0 0 0 0 [] [] [] hz ⟨Sl.nil, Sl.nil, Sl.nil, byOk_nil, byOk_nil, byOk_nil⟩
    by_cases hc : c0 = 0
    · have hc1 : (c0 == 0) = true := by simp [hc]
      have hrz : rcheckT k n N M o = 0 := HC0.out.trans hc
      obtain ⟨hk01, hn0, hn1, hN4, hM4⟩ := rcheck_zero hrz
      have hlb : bs.length ≤ 4096 := by rw [HX11.out.length]; exact hN4
      have hls : ss.length ≤ 4096 := by rw [HY11.out.length]; exact hM4
      have hexe : ex = encT k n t v bs ss := by rw [← HEX.out, if_pos hc]
      have heok := enc_ok hk01 hn0 hn1 HDT.out HDV.out HBO.out HSO.out hlb hls
      rw [← hexe] at heok
      have hdex : decP ex = (ofT k n t v bs ss, 0) := by rw [hexe]; exact dec_enc hk01 hn0 hn1 HDT.out.len HDV.out.len hlb hls
      obtain ⟨TT, hTT⟩ : ∃ TT, ofT k n t v bs ss = TT := ⟨_, rfl⟩
      rw [hTT] at hdex
      have HTTO : Hid (TgOk TT) := by
        show TgOk _
        rw [← hTT, ← HTO.out hrz]
        exact ⟨HT1.out, HT2.out, HT3.out⟩
      have HOF : Hid (∀ W, Below w11.heap.size w11 W → Calls Try.prog 17 #[.agg (rtC k n t v (.slice A N C) (.slice B M D) o).toArray] W (RetOf2 TT B M D W)) := fun W hW => by
        refine (of_any W k n t v HDT.out HDV.out A B N C M D o).mono ?_
        intro e w' hof
        obtain ⟨T', B1, B2, n1, n2, f1, f2, he, -, hsl', -, hTo', hb'⟩ := of_tg hof HDT.out HDV.out (HX11.out.later hW) (HY11.out.later hW) HBO.out HSO.out
        have hT' := (hTo' hrz).trans hTT
        rw [hT'] at he hsl'
        exact ⟨B1, B2, n1, n2, f1, f2, he, hsl', hb'⟩
      have HDEX := Lib.hid hdex
      obtain ⟨heo, hel⟩ := heok
      have HEO := Lib.hid heo
      clear hc hrz hk01 hn0 hn1 hN4 hM4 hlb hls hexe hdex hTT heo
      go_wp2_with fail
      refine (pdecode_any _ A4 ex.length c4 ex HEO.out (Sl.of_own HP11.out) hel).mono ?_
      rw [HDEX.out]
      rintro e w12 ⟨Z1, Z2, Z3, z1, z2, z3, y1, y2, y3, rfl, hsl, hbn⟩
      have HYY12 := Lib.hid hsl
      have HN12 := Lib.hid hbn
      have HBB12 := Lib.hid (below_then HBB11.out hbn)
      have HK12 := Lib.hid (HK11.out.later hbn)
      have HX12 := Lib.hid (HX11.out.later hbn); have HY12 := Lib.hid (HY11.out.later hbn); have HE12 := Lib.hid (HE11.out.later hbn)
      try have HP12 := Lib.hid (own_keep HP11.out hbn)
      try have HQ12 := Lib.hid (own_keep HQ11.out hbn)
      try have HZ12 := Lib.hid (HZ11.out.later hbn)
      try have HT12 := Lib.hid (HT11.out.later hbn)
      try have HS12 := Lib.hid (HS11.out.later hbn)
      try have HR12 := Lib.hid (HR11.out.later hbn)
      try have HU12 := Lib.hid (HU11.out.later hbn)
      try have HY12s := Lib.hid (HY11s.out.later hbn)
      have hz12 : w11.heap.size ≤ w12.heap.size := hbn.size
      clear hbn
      clear hsl
      go_wp2_with (with_reducible refine stop_store 35 _ _ rfl ?_)
      refine StopD.go ?_
      obtain ⟨g4, hg4⟩ : ∃ g, w12.heap.size = g := ⟨_, rfl⟩
      have hbn : Below w12.heap.size w12 (w12.alloc (.cells #[.int .i64 0, .int .u8 0, .int .u8 0, .int .u8 0, .int .u8 0, .int .u8 0, .int .u8 0, .int .u8 0, .int .u8 0, .int .i64 0, .slice none 0 0, .int .u8 0, .int .u8 0, .int .u8 0, .int .u8 0, .int .u8 0, .int .u8 0, .int .u8 0, .int .u8 0, .int .i64 0, .int .u8 0, .int .u8 0, .int .u8 0, .int .u8 0, .int .u8 0, .int .u8 0, .int .u8 0, .int .u8 0, .slice none 0 0, .slice none 0 0] 35)) := below_new w12 _
      have kt : Bk (w12.alloc (.cells #[.int .i64 0, .int .u8 0, .int .u8 0, .int .u8 0, .int .u8 0, .int .u8 0, .int .u8 0, .int .u8 0, .int .u8 0, .int .i64 0, .slice none 0 0, .int .u8 0, .int .u8 0, .int .u8 0, .int .u8 0, .int .u8 0, .int .u8 0, .int .u8 0, .int .u8 0, .int .i64 0, .int .u8 0, .int .u8 0, .int .u8 0, .int .u8 0, .int .u8 0, .int .u8 0, .int .u8 0, .int .u8 0, .slice none 0 0, .slice none 0 0] 35)) g4 35 ([] ++ (thC 0 0 0 zeroD zeroD zeroD (.slice none 0 0) (.slice none 0 0) (.slice none 0 0) ++ [])) := by rw [← hg4]; exact Bk.new' w12 _ #[.int .i64 0, .int .u8 0, .int .u8 0, .int .u8 0, .int .u8 0, .int .u8 0, .int .u8 0, .int .u8 0, .int .u8 0, .int .i64 0, .slice none 0 0, .int .u8 0, .int .u8 0, .int .u8 0, .int .u8 0, .int .u8 0, .int .u8 0, .int .u8 0, .int .u8 0, .int .i64 0, .int .u8 0, .int .u8 0, .int .u8 0, .int .u8 0, .int .u8 0, .int .u8 0, .int .u8 0, .int .u8 0, .slice none 0 0, .slice none 0 0] rfl
      obtain ⟨cz, hcz⟩ : ∃ cz, thC TT.k TT.n TT.m TT.t TT.u TT.v (.slice Z1 z1 y1) (.slice Z2 z2 y2) (.slice Z3 z3 y3) = cz := ⟨_, rfl⟩
      have HCZ := Lib.hid hcz
      have HCZ30 : Hid (cz.length = 30) := by show _ = _; rw [← hcz, thC_len HTTO.out.1 HTTO.out.2.1 HTTO.out.2.2]
      have HCZS : Hid ((Try.prog.info? 35).map (·.size) = some cz.length) := by show _ = _; rw [HCZ30.out]; exact th_size
      have hcz1 : ∀ x ∈ cz, x.oneCell' = true := by rw [← hcz]; exact th_one
      rw [hcz, hg4]
      refine wpList_store_part rfl 35 _ _ rfl g4 0 (.agg cz.toArray) cz rfl rfl rfl 35 [] _ [] kt rfl (by rw [HCZ30.out]; rfl) HCZS.out hcz1 ?_
      intro w13 hp
      have hbn : Below w12.heap.size w12 w13 := hbn.grown hp.only hbn.size (fun q hq => by injection hq with hq; omega)
      have HG13 : Hid (Bk w13 g4 35 cz) := by show Bk _ _ _ _; have := hp.bk; simpa using this
      have HYY13 := Lib.hid (HYY12.out.later hbn)
      have HN13 := Lib.hid (HN12.out.trans (hbn.mono HN12.out.size))
      have HBB13 := Lib.hid (below_then HBB12.out hbn)
      have HK13 := Lib.hid (HK12.out.later hbn)
      have HX13 := Lib.hid (HX12.out.later hbn); have HY13 := Lib.hid (HY12.out.later hbn); have HE13 := Lib.hid (HE12.out.later hbn)
      try have HP13 := Lib.hid (own_keep HP12.out hbn)
      try have HQ13 := Lib.hid (own_keep HQ12.out hbn)
      try have HZ13 := Lib.hid (HZ12.out.later hbn)
      try have HT13 := Lib.hid (HT12.out.later hbn)
      try have HS13 := Lib.hid (HS12.out.later hbn)
      try have HR13 := Lib.hid (HR12.out.later hbn)
      try have HU13 := Lib.hid (HU12.out.later hbn)
      try have HY13s := Lib.hid (HY12s.out.later hbn)
      have hz13 : w12.heap.size ≤ w13.heap.size := hbn.size
      clear hbn
      clear hp kt hg4 hcz hcz1
      have HSM2 : Hid (∀ (W : World) (B1 B2 : Option Addr) (n1 n2 f1 f2 : Nat), Below w13.heap.size w13 W → Sls W W.heap.size B1 B2 B n1 n2 M TT.ps TT.qs TT.ss → Calls Try.prog 24 #[.agg cz.toArray, .agg (thC TT.k TT.n TT.m TT.t TT.u TT.v (.slice B1 n1 f1) (.slice B2 n2 f2) (.slice B M D)).toArray] W (fun e w' => e = .returned (.bool true) ∧ Below W.heap.size W w')) := fun W B1 B2 n1 n2 f1 f2 hW h2 => by
        rw [← HCZ.out]
        exact same_any W TT.k TT.n TT.m TT.t TT.u TT.v HTTO.out.1 HTTO.out.2.1 HTTO.out.2.2 Z1 Z2 Z3 B1 B2 B z1 z2 z3 y1 y2 y3 n1 n2 M f1 f2 D TT.ps TT.qs TT.ss (HYY13.out.later hW) h2
      go_wp2_with fail
      refine wp_region_held_drew (S := fun w' => Bk w' g4 35 cz ∧ Bk w' w.heap.size 25 (rtC k n t v (.slice A N C) (.slice B M D) o)) (by kernel_rfl) ⟨Bk.drew HG13.out, Bk.drew HK13.out⟩ (fun hHeld => ?_)
      refine wpAnyH_take (i := 0) (v := ?_) rfl (by kernel_rfl) (by kernel_rfl) (by kernel_rfl) (fun _ _ _ h => h) (Or.inl ⟨by rfl, ?_⟩) (by assumption) ?_
      rotate_left
      · intro w hSw
        (try dsimp only at hSw)
        go_simp
        try with_reducible rfl
      try simp only [Act.put, List.setIfInBounds_toArray, List.set_cons_zero, List.set_cons_succ, List.getElem_toArray, List.getElem_cons_zero, List.getElem_cons_succ]
      refine wpAnyH_take (i := 1) (v := ?_) rfl (by kernel_rfl) (by kernel_rfl) (by kernel_rfl) (fun _ _ _ h => h) (Or.inl ⟨by rfl, ?_⟩) (by assumption) ?_
      rotate_left
      · intro w hSw
        (try dsimp only at hSw)
        go_simp
        try with_reducible rfl
      try simp only [Act.put, List.setIfInBounds_toArray, List.set_cons_zero, List.set_cons_succ, List.getElem_toArray, List.getElem_cons_zero, List.getElem_cons_succ]
      refine wpAnyH_take (i := 2) (v := ?_) rfl (by kernel_rfl) (by kernel_rfl) (by kernel_rfl) (fun _ _ _ h => h) (Or.inl ⟨by rfl, ?_⟩) (by assumption) ?_
      rotate_left
      · intro w hSw
        (try dsimp only at hSw)
        go_simp
        try with_reducible rfl
      try simp only [Act.put, List.setIfInBounds_toArray, List.set_cons_zero, List.set_cons_succ, List.getElem_toArray, List.getElem_cons_zero, List.getElem_cons_succ]
      refine wpAnyH_take (i := 3) (v := .agg (List.toArray (cz))) rfl (by kernel_rfl) (by kernel_rfl) (by kernel_rfl) (fun _ _ _ h => h) (yieldsIf_load_mid (by rfl) _ _ rfl _ _ rfl (cz) _ (fun w hSw => (Bk.range (pre := []) (post := []) (by simpa using hSw.1) rfl)) Try.underlying35 rfl (HCZS.out)) (by assumption) ?_
      try simp only [Act.put, List.setIfInBounds_toArray, List.set_cons_zero, List.set_cons_succ, List.getElem_toArray, List.getElem_cons_zero, List.getElem_cons_succ]
      refine wpAnyH_take (i := 4) (v := .agg (List.toArray (rtC k n t v (.slice A N C) (.slice B M D) o))) rfl (by kernel_rfl) (by kernel_rfl) (by kernel_rfl) (fun _ _ _ h => h) (yieldsIf_load_mid (by rfl) _ _ rfl _ _ rfl (rtC k n t v (.slice A N C) (.slice B M D) o) _ (fun w hSw => (Bk.range (pre := []) (post := []) (by simpa using hSw.2) rfl)) Try.underlying25 rfl (HTH.out)) (by assumption) ?_
      try simp only [Act.put, List.setIfInBounds_toArray, List.set_cons_zero, List.set_cons_succ, List.getElem_toArray, List.getElem_cons_zero, List.getElem_cons_succ]
      refine wpAnyH_ready (rs := [5]) (by kernel_rfl) (by simp) ?_
      refine AllReadyH.cons rfl (fun K hK => ?_) AllReadyH.nil
      go_simp
      (go_at_call 17; refine (HOF.out _ (HN13.out.trans ((below_draws w13 w13.heap.size 1).mono HN13.out.size))).mono ?_; rintro e w14 ⟨B1, B2, n1, n2, f1, f2, rfl, hsl, hb⟩; have hbn := (below_draws w13 w13.heap.size 1).trans hb; have HBQ := Lib.hid hbn; have HSQ := Lib.hid hsl; clear hb hbn hsl)
      refine hK.out _ _ (⟨HG13.out.later HBQ.out, HK13.out.later HBQ.out⟩) (fun hHeld => ?_)
      clear hK K
      try simp only [Act.put, List.setIfInBounds_toArray, List.set_cons_zero, List.set_cons_succ, List.getElem_toArray, List.getElem_cons_zero, List.getElem_cons_succ]
      refine wpAnyH_ready (rs := [6]) (by kernel_rfl) (by simp) ?_
      refine AllReadyH.cons rfl (fun K hK => ?_) AllReadyH.nil
      go_simp
      (go_at_call 24; refine (HSM2.out _ B1 B2 n1 n2 f1 f2 HBQ.out HSQ.out).mono ?_; rintro e w15 ⟨rfl, hb⟩; have hbn := HBQ.out.trans (hb.mono HBQ.out.size); have HBQ2 := Lib.hid hbn; clear hb hbn)
      refine hK.out _ _ (⟨HG13.out.later HBQ2.out, HK13.out.later HBQ2.out⟩) (fun hHeld => ?_)
      clear hK K
      try simp only [Act.put, List.setIfInBounds_toArray, List.set_cons_zero, List.set_cons_succ, List.getElem_toArray, List.getElem_cons_zero, List.getElem_cons_succ]
      refine wpAnyH_take (i := 7) (v := ?_) rfl (by kernel_rfl) (by kernel_rfl) (by kernel_rfl) (fun _ _ _ h => h) (Or.inl ⟨by rfl, ?_⟩) (by assumption) ?_
      rotate_left
      · intro w hSw
        (try dsimp only at hSw)
        go_simp
        try with_reducible rfl
      try simp only [Act.put, List.setIfInBounds_toArray, List.set_cons_zero, List.set_cons_succ, List.getElem_toArray, List.getElem_cons_zero, List.getElem_cons_succ]
      refine wpAnyH_take (i := 8) (v := ?_) rfl (by kernel_rfl) (by kernel_rfl) (by kernel_rfl) (fun _ _ _ h => h) (Or.inl ⟨by rfl, ?_⟩) (by assumption) ?_
      rotate_left
      · intro w hSw
        (try dsimp only at hSw)
        go_simp
        try with_reducible rfl
      try simp only [Act.put, List.setIfInBounds_toArray, List.set_cons_zero, List.set_cons_succ, List.getElem_toArray, List.getElem_cons_zero, List.getElem_cons_succ]
      refine wpAnyH_done (by kernel_rfl) ?_ _
      clear hHeld
      have HN15 := Lib.hid (HN13.out.trans (HBQ2.out.mono HN13.out.size))
      have hbn := HBQ2.out
      have HBB15 := Lib.hid (below_then HBB13.out hbn)
      have HK15 := Lib.hid (HK13.out.later hbn)
      have HX15 := Lib.hid (HX13.out.later hbn); have HY15 := Lib.hid (HY13.out.later hbn); have HE15 := Lib.hid (HE13.out.later hbn)
      try have HP15 := Lib.hid (own_keep HP13.out hbn)
      try have HQ15 := Lib.hid (own_keep HQ13.out hbn)
      try have HZ15 := Lib.hid (HZ13.out.later hbn)
      try have HT15 := Lib.hid (HT13.out.later hbn)
      try have HS15 := Lib.hid (HS13.out.later hbn)
      try have HR15 := Lib.hid (HR13.out.later hbn)
      try have HU15 := Lib.hid (HU13.out.later hbn)
      try have HY15s := Lib.hid (HY13s.out.later hbn)
      have hz15 : w13.heap.size ≤ w15.heap.size := hbn.size
      clear hbn
      by_cases hd : dp.2 = 0
      · have hd1 : (dp.2 != 0) = false := by simp [hd]
        have HEN := Lib.hid (HENC.out hd)
        clear hd
        go_wp2_with (with_reducible refine wpList_load_bk rfl 35 _ rfl g2 rfl cy 35 HT15.out _ Try.underlying35 rfl HCYS.out ?_)
        refine (HEN.out _ HN15.out).mono ?_
        rintro e w30 ⟨hbn, v30, rfl, hown⟩
        rw [if_pos rfl] at hown
        obtain ⟨A30, c30, rfl⟩ := own_form hown
        have hca := conv_any w30 _ A30 _ c30 xs (Sl.of_own hown)
        have hcb := conv_any w30 _ E L F xs (HE15.out.later hbn)
        have HBE := Lib.hid (below_then HBB15.out hbn)
        clear hbn hown
        go_wp2_with fail
        go_ret
        exact ⟨rfl, HBE.out⟩
      · have hd1 : (dp.2 != 0) = true := by simp [hd]
        have HSA := Lib.hid (HSAM.out hd)
        have HBZ := Lib.hid z_tb
        clear hd
        go_wp2_with (first
          | (with_reducible refine wpList_load_bk rfl 35 _ rfl g2 rfl cy 35 HT15.out _ Try.underlying35 rfl HCYS.out ?_)
          | (with_reducible refine wpList_build rfl 35 _ rfl #[] (by simp [Act.eval]) (.agg (thC 0 0 0 zeroD zeroD zeroD (.slice none 0 0) (.slice none 0 0) (.slice none 0 0)).toArray) (HBZ.out _) ?_))
        refine (HSA.out _ HN15.out).mono ?_
        rintro e w30 ⟨rfl, hbn⟩
        have HBE := Lib.hid (below_then HBB15.out hbn)
        clear hbn
        go_wp2_with fail
        go_ret
        exact ⟨rfl, HBE.out⟩
    · have hc1 : (c0 == 0) = false := by simp [hc]
      clear hc
      have hbn := Below.refl w11.heap.size w11
      have HN11 := Lib.hid hbn
      clear hbn
      by_cases hd : dp.2 = 0
      · have hd1 : (dp.2 != 0) = false := by simp [hd]
        have HEN := Lib.hid (HENC.out hd)
        clear hd
        go_wp2_with (with_reducible refine wpList_load_bk rfl 35 _ rfl g2 rfl cy 35 HT11.out _ Try.underlying35 rfl HCYS.out ?_)
        refine (HEN.out _ HN11.out).mono ?_
        rintro e w30 ⟨hbn, v30, rfl, hown⟩
        rw [if_pos rfl] at hown
        obtain ⟨A30, c30, rfl⟩ := own_form hown
        have hca := conv_any w30 _ A30 _ c30 xs (Sl.of_own hown)
        have hcb := conv_any w30 _ E L F xs (HE11.out.later hbn)
        have HBE := Lib.hid (below_then HBB11.out hbn)
        clear hbn hown
        go_wp2_with fail
        go_ret
        exact ⟨rfl, HBE.out⟩
      · have hd1 : (dp.2 != 0) = true := by simp [hd]
        have HSA := Lib.hid (HSAM.out hd)
        have HBZ := Lib.hid z_tb
        clear hd
        go_wp2_with (first
          | (with_reducible refine wpList_load_bk rfl 35 _ rfl g2 rfl cy 35 HT11.out _ Try.underlying35 rfl HCYS.out ?_)
          | (with_reducible refine wpList_build rfl 35 _ rfl #[] (by simp [Act.eval]) (.agg (thC 0 0 0 zeroD zeroD zeroD (.slice none 0 0) (.slice none 0 0) (.slice none 0 0)).toArray) (HBZ.out _) ?_))
        refine (HSA.out _ HN11.out).mono ?_
        rintro e w30 ⟨rfl, hbn⟩
        have HBE := Lib.hid (below_then HBB11.out hbn)
        clear hbn
        go_wp2_with fail
        go_ret
        exact ⟨rfl, HBE.out⟩
  · have a0 : decide ((5000 : Int) < S) = true ∨ (decide ((5000 : Int) < S) = false ∧ decide ((5000 : Int) < (L : Int)) = true ∧ decide (5000 < L) = true) := by
      rcases Int.lt_or_le 5000 S with h | h
      · exact .inl (by simp; omega)
      · exact .inr ⟨by simp; omega, by simp; omega, by simp; omega⟩
    clear hbig
    rcases a0 with a1 | ⟨a1, a2, a3⟩
    all_goals
      go_enter Try.func3, Try.ntmps3
      go_upto_region 1 with fail
      rw [HW.out]
      go_wp2_with fail
      refine (pknown_any _).mono ?_
      rintro e w2 ⟨rfl, hbn⟩
      have HK2 := Lib.hid (HK1.out.later hbn)
      have HBB2 := Lib.hid (below_then HBB1.out hbn)
      clear hbn
      have c18 := (rt_mem HDT.out HDV.out HK2.out).c18
      have c19 := (rt_mem HDT.out HDV.out HK2.out).c19
      go_wp2_with fail
      refine (pknown_any _).mono ?_
      rintro e w3 ⟨rfl, hbn⟩
      have HBB3 := Lib.hid (below_then HBB2.out hbn)
      go_wp2_with fail
      go_ret
      exact ⟨rfl, HBB3.out⟩
end Go.Proofs.Ythibihjblodfmaa
