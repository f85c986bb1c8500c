/- A signed state, read off bytes: the program's. -/
import Derived.Test.YthibihjblodfmaaS24
namespace Go.Proofs.Ythibihjblodfmaa
open Go.RowKit Go.Maps

def d0D (bs : List Int) : Ds := ⟨⟨bs, 0⟩, 0, 0, zeroD, [], 0, []⟩
def d1D (bs : List Int) : Ds := stepD (d0D bs) (tabD (d0D bs))
def d2D (bs : List Int) : Ds := stepD (d1D bs) (numD (d1D bs))
def d3D (bs : List Int) : Ds := stepD (d2D bs) (posD (d2D bs))
def d4D (bs : List Int) : Ds := stepD (d3D bs) (manyD (d3D bs))
def itD : Nat → Ds → Ds
  | 0, d => d
  | k + 1, d => stepD (itD k d) (sigD (itD k d))
def d5D (bs : List Int) : Ds := itD (d4D bs).many.toNat (d4D bs)
def endD (d : Ds) : Int := if d.e = 0 then endR d.rd else d.e
def decS (bs : List Int) : Jn := if endD (d5D bs) = 0 then ⟨(d5D bs).t, (d5D bs).n, (d5D bs).ps, (d5D bs).L, 0⟩ else ⟨zeroD, 0, [], [], endD (d5D bs)⟩
theorem step_e {d : Ds} {p : Ds × Bool} (hp : p.1.e = d.e) : d.e = 0 → p.1.e = 0 := fun h => hp.trans h
theorem itD_len (d : Ds) : ∀ k, (itD k d).L.length ≤ d.L.length + k
  | 0 => Nat.le_refl _
  | k + 1 => by
    have := itD_len d k
    show (stepD _ _).L.length ≤ _
    unfold stepD
    split
    · show ((itD k d).L ++ [_]).length ≤ _
      simp; omega
    · omega
theorem dec_sret {w : World} {g : Nat} {n e : Int} {t : List Int} {p q : Value} (ht : DgOk t) (h : Bk w g 101 (sgC n t p q)) (tmps : Array Value) (h2 : tmps.getD 2 undef = .pointer (some ⟨g, 0, none⟩)) (h3 : tmps.getD 3 undef = .int .i64 e) :
    (results Try.f57 tmps).run Try.prog w = .ok (.tuple #[.agg (sgC n t p q).toArray, .int .i64 e]) w := by
  have r1 : w.rangeAt g 0 (sgC n t p q) := Bk.range (pre := []) (post := []) (by simpa using h) rfl
  have l1 := run_loadVar_mid (P := Try.prog) w g 0 101 (sgC n t p q) _ r1 Try.underlying101 rfl (sg_info ht)
  rw [Array.getD_eq_getD_getElem?] at h2 h3
  simp [results, Try.results57, h2, h3, asAddr, l1]
theorem some_rest {s : Rd} {most : Int} (h : ByOk s.rest) : ByOk (someR s most).1.rest := by
  unfold someR
  split
  · split
    · split
      · split
        · exact (h.drop _).drop _
        · exact h
      · exact h
    · exact h
  · exact h
theorem num_rest {s : Rd} {most : Int} (h : ByOk s.rest) : ByOk (numR s most).1.rest := by
  unfold numR
  split
  · split
    · split
      · exact h.drop _
      · exact h
    · exact h
  · exact h
theorem step_ok {d : Ds} {p : Ds × Bool} (h : ByOk d.rd.rest) (hp : ByOk p.1.rd.rest) : ByOk (stepD d p).rd.rest := by
  unfold stepD; split
  · exact hp
  · exact h
theorem step_L {d : Ds} {p : Ds × Bool} (h : d.L = []) (hp : p.1.L = []) : (stepD d p).L = [] := by
  unfold stepD; split
  · exact hp
  · exact h
theorem step_m {d : Ds} {p : Ds × Bool} (h : d.many = 0) (hp : p.1.many = 0) : (stepD d p).many = 0 := by
  unfold stepD; split
  · exact hp
  · exact h
/-- How many signatures there are at most. -/
theorem many_rng (bs : List Int) (hb : ByOk bs) : 0 ≤ (d4D bs).many ∧ (d4D bs).many ≤ 8 ∧ (d4D bs).L = [] := by
  have b0 : ByOk (d0D bs).rd.rest := hb
  have b1 := step_ok b0 (p := tabD (d0D bs)) (some_rest b0)
  have b2 := step_ok b1 (p := numD (d1D bs)) (num_rest b1)
  have b3 := step_ok b2 (p := posD (d2D bs)) (some_rest b2)
  have l1 : (d1D bs).L = [] := step_L rfl (p := tabD (d0D bs)) rfl
  have l2 : (d2D bs).L = [] := step_L l1 (p := numD (d1D bs)) l1
  have l3 : (d3D bs).L = [] := step_L l2 (p := posD (d2D bs)) l2
  have m1 : (d1D bs).many = 0 := step_m rfl (p := tabD (d0D bs)) rfl
  have m2 : (d2D bs).many = 0 := step_m m1 (p := numD (d1D bs)) m1
  have m3 : (d3D bs).many = 0 := step_m m2 (p := posD (d2D bs)) m2
  refine ⟨?_, ?_, step_L l3 (p := manyD (d3D bs)) l3⟩
  · show 0 ≤ (stepD _ _).many
    unfold stepD
    split
    · exact (num_rng b3 (most := 8) (by decide)).1
    · omega
  · show (stepD _ _).many ≤ 8
    unfold stepD
    split
    · exact (num_rng b3 (most := 8) (by decide)).2
    · omega
set_option maxRecDepth 20000 in
set_option maxHeartbeats 4000000 in
theorem stDec_any (w : World) (A : Option Addr) (n c : Nat) (bs : List Int) (hbo : ByOk bs) (hs : Sl w w.heap.size 1 A n (bs.map (.int .u8))) (hn : n ≤ 1073741824) :
    Calls Try.prog 57 #[.slice A n c] w (RetJ (decS bs) w) := by
  obtain ⟨w1, hw1⟩ : ∃ w1, w.alloc (.cells #[.int .u8 0, .int .u8 0, .int .u8 0, .int .u8 0, .int .u8 0, .int .u8 0, .int .u8 0, .int .u8 0, .int .i64 0, .slice none 0 0, .slice none 0 0] 101) = w1 := ⟨_, rfl⟩
  have hb1 : Below w.heap.size w w1 := hw1 ▸ below_new w _
  have kz : Bk w1 w.heap.size 101 (sgC 0 zeroD (.slice none 0 0) (.slice none 0 0)) := hw1 ▸ Bk.new' w _ _ rfl
  have HW := Lib.hid hw1; have HBB1 := Lib.hid hb1; have HZ1 := Lib.hid kz
  have HNR := Lib.hid (newReader_any w1 A n c bs hbo (hs.later hb1) hn)
  have HMR := Lib.hid (many_rng bs hbo)
  clear hw1 hb1 kz hs
  go_enter Try.func57, Try.ntmps57
  go_upto_region 1 with fail
  rw [HW.out]
  go_wp2_with fail
  refine HNR.out.mono ?_
  rintro e w2 ⟨⟨g, rfl, hg, hr⟩, hbn⟩
  have HR2 := Lib.hid hr; have HG2 := Lib.hid hg
  have HBB2 := Lib.hid (below_then HBB1.out hbn)
  have HZ2 := Lib.hid (HZ1.out.later hbn)
  clear hbn
  clear hr hg
  go_wp2_with fail
  have hn3 : Below w2.heap.size w2 ((((w2.alloc (.cells #[.pointer (some ⟨g, 0, none⟩)] 129)).alloc (.cells #[.int .u8 0, .int .u8 0, .int .u8 0, .int .u8 0, .int .u8 0, .int .u8 0, .int .u8 0, .int .u8 0, .int .i64 0, .slice none 0 0, .slice none 0 0] 101)).alloc (.cells #[.int .i64 0] 3)).alloc (.cells #[.int .i64 0] 27)) := (((below_new w2 _).alloc (by simp) _).alloc (by simp <;> omega) _).alloc (by simp <;> omega) _
  obtain ⟨p, hp⟩ : ∃ p, w2.heap.size = p := ⟨_, rfl⟩
  obtain ⟨w3, hw3⟩ : ∃ w3, ((((w2.alloc (.cells #[.pointer (some ⟨g, 0, none⟩)] 129)).alloc (.cells #[.int .u8 0, .int .u8 0, .int .u8 0, .int .u8 0, .int .u8 0, .int .u8 0, .int .u8 0, .int .u8 0, .int .i64 0, .slice none 0 0, .slice none 0 0] 101)).alloc (.cells #[.int .i64 0] 3)).alloc (.cells #[.int .i64 0] 27)) = w3 := ⟨_, rfl⟩
  have HD3 : Hid (DecB w3 ⟨w.heap.size + 1, g, p, p + 1, p + 1 + 1, p + 1 + 1 + 1⟩ (d0D bs)) := by
    have hgp : g < p := hp ▸ HR2.out.lt
    have hwg : w1.heap.size = w.heap.size + 1 := by rw [← HW.out]; simp
    have hG := HG2.out
    refine ⟨⟨show w.heap.size + 1 ≤ g by omega, show g < p from hgp, show p < p + 1 by omega, show p + 1 < p + 1 + 1 by omega, show p + 1 + 1 < p + 1 + 1 + 1 by omega⟩, ?_, ?_, ?_, ?_, ?_, zero_ok⟩
    · rw [← hw3]; exact (((Bk.at_ w2 _ #[.pointer (some ⟨g, 0, none⟩)] hp rfl).alloc _).alloc _).alloc _
    · refine ⟨none, none, 0, 0, 0, [], ?_, World.ownsRow_nil _ _ _ _, World.ownsRow_nil _ _ _ _, PcsOwn.nil_ _ _, rfl⟩
      rw [← hw3]; exact ((Bk.at_ _ _ _ (by simp [hp]) rfl).alloc _).alloc _
    · rw [← hw3]; exact (Bk.at_ _ _ #[.int .i64 0] (by simp [hp]) rfl).alloc _
    · rw [← hw3]; exact Bk.at_ _ _ #[.int .i64 0] (by simp [hp]) rfl
    · rw [← hw3]; exact HR2.out.later (hn3)
  have hbn : Below w2.heap.size w2 w3 := hw3 ▸ hn3
  rw [hp, hw3]
  have HBB3 := Lib.hid (below_then HBB2.out hbn)
  have HZ3 := Lib.hid (HZ2.out.later hbn)
  clear hbn
  clear hn3 hw3 hp
  have hcf : ∀ (i : Nat), (i = 105 ∨ i = 106 ∨ i = 107 ∨ i = 108 ∨ i = 109) → ∀ cap w, (callFunc i cap).run Try.prog w = .ok (.enter i cap) w := by
    rintro i (rfl | rfl | rfl | rfl | rfl) cap w <;> kernel_rfl
  have HCF := Lib.hid hcf
  clear hcf
  have HPW : Hid (w.heap.size < p) := by obtain ⟨h1, h2, _⟩ := HD3.out.ord; show w.heap.size < p; have h1' : w.heap.size + 1 ≤ g := h1; have h2' : g < p := h2; omega
  refine (next_any 105 _ (HCF.out _ (by simp) _) w3 _ (d0D bs) HD3.out (tabD (d0D bs)) (step_e rfl) (fun _ => dec2_any w3 _ (d0D bs) HD3.out)).mono ?_
  rintro e w4 ⟨rfl, hd, hbn⟩
  have HD4 : Hid (DecB w4 ⟨w.heap.size + 1, g, p, p + 1, p + 1 + 1, p + 1 + 1 + 1⟩ (d1D bs)) := hd
  have HBB4 := Lib.hid (HBB3.out.trans (hbn.mono (Nat.le_succ _)))
  have HZ4 := Lib.hid (HZ3.out.below hbn (Nat.lt_succ_self _))
  clear hd hbn
  go_wp2_with fail
  refine (next_any 106 _ (HCF.out _ (by simp) _) w4 _ (d1D bs) HD4.out (numD (d1D bs)) (step_e rfl) (fun _ => dec3_any w4 _ (d1D bs) HD4.out)).mono ?_
  rintro e w5 ⟨rfl, hd, hbn⟩
  have HD5 : Hid (DecB w5 ⟨w.heap.size + 1, g, p, p + 1, p + 1 + 1, p + 1 + 1 + 1⟩ (d2D bs)) := hd
  have HBB5 := Lib.hid (HBB4.out.trans (hbn.mono (Nat.le_succ _)))
  have HZ5 := Lib.hid (HZ4.out.below hbn (Nat.lt_succ_self _))
  clear hd hbn
  go_wp2_with fail
  refine (next_any 107 _ (HCF.out _ (by simp) _) w5 _ (d2D bs) HD5.out (posD (d2D bs)) (step_e rfl) (fun _ => dec4_any w5 _ (d2D bs) HD5.out)).mono ?_
  rintro e w6 ⟨rfl, hd, hbn⟩
  have HD6 : Hid (DecB w6 ⟨w.heap.size + 1, g, p, p + 1, p + 1 + 1, p + 1 + 1 + 1⟩ (d3D bs)) := hd
  have HBB6 := Lib.hid (HBB5.out.trans (hbn.mono (Nat.le_succ _)))
  have HZ6 := Lib.hid (HZ5.out.below hbn (Nat.lt_succ_self _))
  clear hd hbn
  go_wp2_with fail
  refine (next_any 108 _ (HCF.out _ (by simp) _) w6 _ (d3D bs) HD6.out (manyD (d3D bs)) (step_e rfl) (fun _ => dec5_any w6 _ (d3D bs) HD6.out)).mono ?_
  rintro e w7 ⟨rfl, hd, hbn⟩
  have HD7 : Hid (DecB w7 ⟨w.heap.size + 1, g, p, p + 1, p + 1 + 1, p + 1 + 1 + 1⟩ (d4D bs)) := hd
  have HBB7 := Lib.hid (HBB6.out.trans (hbn.mono (Nat.le_succ _)))
  have HZ7 := Lib.hid (HZ6.out.below hbn (Nat.lt_succ_self _))
  clear hd hbn
  obtain ⟨m0, m8, mL⟩ := HMR.out
  obtain ⟨m, hm⟩ : ∃ m : Nat, (d4D bs).many = m := ⟨(d4D bs).many.toNat, by omega⟩
  have cn : w7.cell? ⟨p + 1 + 1, 0, none⟩ = some (.int .i64 (m : Int)) := by rw [← hm]; exact one_cell HD7.out.kn
  have HMM : Hid (itD m (d4D bs) = d5D bs) := by show _ = _; rw [d5D, hm]; rfl
  have HML := Lib.hid mL
  have hm8 : m ≤ 8 := by omega
  clear m0 m8 hm mL
  go_wp2_with fail
  clear cn
  go_loopw [25] (fun iv wr => ∃ k : Nat, k ≤ m ∧ iv = .int .i64 k ∧ Hid (DecB wr ⟨w.heap.size + 1, g, p, p + 1, p + 1 + 1, p + 1 + 1 + 1⟩ (itD k (d4D bs))) ∧ Hid (Below w.heap.size w wr) ∧ Hid (Bk wr w.heap.size 101 (sgC 0 zeroD (.slice none 0 0) (.slice none 0 0)))) (fun iv _ => m - (intOf iv).toNat)
  case atStart => exact ⟨0, Nat.zero_le _, rfl, HD7.out, HBB7.out, HZ7.out⟩
  case round =>
    obtain ⟨k, hk, rfl, HDr, HBBr, HZr⟩ := hrel
    by_cases hlt : k < m
    · have hki : (k : Int) < m := by omega
      have HLL : Hid ((itD k (d4D bs)).L.length ≤ 1000) := by show _ ≤ _; have := itD_len (d4D bs) k; rw [HML.out] at this; simp at this; omega
      go_wp2_with fail
      refine (next_any 109 _ (HCF.out _ (by simp) _) wr _ (itD k (d4D bs)) HDr.out (sigD (itD k (d4D bs))) (step_e rfl) (fun _ => (fun w b _ h => dec6_any w b (itD k (d4D bs)) h HLL.out) wr _ (itD k (d4D bs)) HDr.out)).mono ?_
      rintro e w8 ⟨rfl, hd, hbn⟩
      have HD8 : Hid (DecB w8 ⟨w.heap.size + 1, g, p, p + 1, p + 1 + 1, p + 1 + 1 + 1⟩ (itD (k + 1) (d4D bs))) := hd
      have HBB8 := Lib.hid (HBBr.out.trans (hbn.mono (Nat.le_succ _)))
      have HZ8 := Lib.hid (HZr.out.below hbn (Nat.lt_succ_self _))
      clear hd hbn
      go_wp2_with fail
      go_roundw
      case rel => exact ⟨k + 1, by omega, by go_num, HD8.out, HBB8.out, HZ8.out⟩
      case measure => simp [intOf]; omega
    · have hkk : m = k := by omega
      subst hkk
      rw [HMM.out] at HDr
      have HKE : Hid (Bk wr (p + 1 + 1 + 1) 27 [.int .i64 (d5D bs).e]) := HDr.out.ke
      obtain ⟨E, hE⟩ : ∃ E, (d5D bs).e = E := ⟨_, rfl⟩
      have HE := Lib.hid hE
      rw [hE] at HKE
      have ce0 := one_cell HKE.out
      clear hE
      by_cases he : E = 0
      · subst he
        have cr := one_cell HDr.out.kr
        have fe := HKE.out.frozen 0
        go_wp2_with fail
        refine (rdEnd_any wr g (d5D bs).rd HDr.out.rd).mono ?_
        rintro e we ⟨rfl, q, rfl⟩
        have HDe : Hid (DecB (wr.drewN q) ⟨w.heap.size + 1, g, p, p + 1, p + 1 + 1, p + 1 + 1 + 1⟩ (d5D bs)) := HDr.out.drewN q
        have HBBe := Lib.hid (HBBr.out.trans (below_draws wr w.heap.size q))
        have HZe := Lib.hid (HZr.out.drewN q)
        obtain ⟨we, hwe⟩ : ∃ we, wr.drewN q = we := ⟨_, rfl⟩
        rw [hwe] at HDe HBBe HZe ⊢
        obtain ⟨R, hR⟩ : ∃ R, endR (d5D bs).rd = R := ⟨_, rfl⟩
        have HR := Lib.hid hR
        rw [hR]
        obtain ⟨wf, hwf⟩ : ∃ wf, we.setCell ⟨p + 1 + 1 + 1, 0, none⟩ (.int .i64 R) = wf := ⟨_, rfl⟩
        have HDf : Hid (DecB wf ⟨w.heap.size + 1, g, p, p + 1, p + 1 + 1, p + 1 + 1 + 1⟩ { d5D bs with e := R }) := hwf ▸ HDe.out.setE R
        have HBBf : Hid (Below w.heap.size w wf) := hwf ▸ below_only HBBe.out (only_set (World.grownBy.refl we _) 0 _) HBBe.out.size (by have := HPW.out; omega)
        have HZf : Hid (Bk wf w.heap.size 101 (sgC 0 zeroD (.slice none 0 0) (.slice none 0 0))) := hwf ▸ HZe.out.far (p := ⟨p + 1 + 1 + 1, 0, none⟩) (show w.heap.size ≠ p + 1 + 1 + 1 by have := HPW.out; omega) _
        have HKEf : Hid (Bk wf (p + 1 + 1 + 1) 27 [.int .i64 R]) := HDf.out.ke
        have hst : we.cell? ⟨p + 1 + 1 + 1, 0, none⟩ = some (.int .i64 0) := by rw [← hwe]; exact ce0
        have hsf : we.frozen? ⟨p + 1 + 1 + 1, 0, none⟩ = false := by rw [← hwe]; exact fe
        clear hR hwe ce0 fe cr
        by_cases hR0 : R = 0
        · subst hR0
          have ce := one_cell HKEf.out
          have HFIN : Hid (decS bs = ⟨(d5D bs).t, (d5D bs).n, (d5D bs).ps, (d5D bs).L, 0⟩) := by show _ = _; rw [decS, endD, HE.out, if_pos rfl, HR.out, if_pos rfl]
          obtain ⟨P, Q, c', M, dd, rs, h1, h2, h3, h4, h5⟩ := HDf.out.ks
          have HT : Hid (DgOk (d5D bs).t) := HDf.out.ok
          obtain ⟨J, hJ⟩ : ∃ J : Jn, J = ⟨(d5D bs).t, (d5D bs).n, (d5D bs).ps, (d5D bs).L, 0⟩ := ⟨_, rfl⟩
          have K1 : Hid (Bk wf (p + 1) 101 (sgC J.n J.t (.slice P J.ps.length c') (.slice Q M dd))) := by rw [hJ]; exact h1
          have K2 : Hid (wf.ownsRow w.heap.size 5 1 (.slice P J.ps.length c') J.ps.length (J.ps.map (.int .u8))) := by rw [hJ]; exact own_base h2 (by have := HPW.out; show w.heap.size ≤ p + 1 + 1 + 1 + 1; omega)
          have K3 := Lib.hid (own_base (base' := w.heap.size) h3 (by have := HPW.out; show w.heap.size ≤ p + 1 + 1 + 1 + 1; omega))
          have K4 : Hid (PcsOwn wf w.heap.size rs) := fun q hq => own_base (h4 q hq) (by have := HPW.out; show w.heap.size ≤ p + 1 + 1 + 1 + 1; omega)
          have K5 : Hid (bsP rs = J.L) := by rw [hJ]; exact h5
          have HTJ : Hid (DgOk J.t) := by rw [hJ]; exact HT.out
          rw [← hJ] at HFIN
          have HJE : Hid (J.e = 0) := by rw [hJ]; exact rfl
          clear h1 h2 h3 h4 h5 hJ
          go_wp2_with (first
            | (with_reducible refine wpList_load_bk rfl 101 _ rfl (p + 1) rfl (sgC J.n J.t (.slice P J.ps.length c') (.slice Q M dd)) 101 K1.out _ Try.underlying101 rfl (sg_info HTJ.out) ?_)
            | (with_reducible refine stop_store 101 _ _ rfl ?_))
          refine StopD.go ?_
          refine wpList_store_part rfl 101 _ _ rfl w.heap.size 0 (.agg (sgC J.n J.t (.slice P J.ps.length c') (.slice Q M dd)).toArray) (sgC J.n J.t (.slice P J.ps.length c') (.slice Q M dd)) rfl rfl rfl 101 [] (sgC 0 zeroD (.slice none 0 0) (.slice none 0 0)) [] (by simpa using HZf.out) rfl (by rw [sgC_len HTJ.out]; rfl) (sg_info HTJ.out) sg_one ?_
          intro w9 hp
          have HZ9 : Hid (Bk w9 w.heap.size 101 (sgC J.n J.t (.slice P J.ps.length c') (.slice Q M dd))) := by show Bk _ _ _ _; have := hp.bk; simpa using this
          have HBB9 := Lib.hid (below_only HBBf.out hp.only HBBf.out.size (Nat.le_refl _))
          have L2 := Lib.hid (own_only K2.out hp.only (own_bk_ne K2.out HZf.out (by decide)))
          have L3 := Lib.hid (own_only K3.out hp.only (own_bk_ne K3.out HZf.out (by decide)))
          have L4 := Lib.hid (K4.out.grown HZf.out (by decide) hp.only)
          clear hp
          go_wp2_with fail
          refine bodyPost_ret (dec_sret HTJ.out HZ9.out _ rfl rfl) rfl ?_
          rw [HFIN.out]
          exact ⟨P, Q, J.ps.length, c', M, dd, rs, by rw [HJE.out], L2.out, L3.out, L4.out, K5.out, HBB9.out⟩
        · have HNE := Lib.hid hR0
          have HFIN : Hid (decS bs = ⟨zeroD, 0, [], [], R⟩) := by show _ = _; rw [decS, endD, HE.out, if_pos rfl, HR.out, if_neg hR0]
          have ce0 := one_cell HKEf.out
          clear hR0
          have ce := one_cell HKEf.out
          have hne : (R != 0) = true := by simpa using HNE.out
          clear ce0
          go_wp2_with fail
          refine wp_region_held_drew (S := fun w' => Bk w' (p + 1 + 1 + 1) 27 [.int .i64 R]) (by kernel_rfl) (Bk.drew HKEf.out) (fun hHeld => ?_)
          refine wpAnyH_take (i := 0) (v := .agg (List.toArray (sgC 0 zeroD (.slice none 0 0) (.slice none 0 0)))) rfl (by kernel_rfl) (by kernel_rfl) (by kernel_rfl) (fun _ _ _ h => h) (yieldsIf_build (by rfl) _ _ rfl #[] (by simp [Act.eval]) _ (build_sg0)) (by assumption) ?_
          try simp only [Act.put, List.setIfInBounds_toArray, List.set_cons_zero, List.set_cons_succ, List.getElem_toArray, List.getElem_cons_zero, List.getElem_cons_succ]
          refine wpAnyH_take (i := 1) (v := ?_) rfl (by kernel_rfl) (by kernel_rfl) (by kernel_rfl) (fun _ _ _ h => h) (Or.inl ⟨by rfl, ?_⟩) (by assumption) ?_
          rotate_left
          · intro w hSw
            have hcell := (one_cell hSw)
            clear hSw
            go_simp
            try with_reducible rfl
          try simp only [Act.put, List.setIfInBounds_toArray, List.set_cons_zero, List.set_cons_succ, List.getElem_toArray, List.getElem_cons_zero, List.getElem_cons_succ]
          refine wpAnyH_ready (rs := [2]) (by kernel_rfl) (by simp) ?_
          refine AllReadyH.cons rfl (fun K hK => ?_) AllReadyH.nil
          rw [if_pos (by rfl)]
          refine wp_store_part _ _ _ rfl w.heap.size 0 _ (sgC 0 zeroD (.slice none 0 0) (.slice none 0 0)) rfl rfl rfl _ ([]) (sgC 0 zeroD (.slice none 0 0) (.slice none 0 0)) ([]) (by have := HZf.out.drew; simpa using this) rfl rfl (sg_info zero_ok) sg_one ?_
          intro w9 hp9
          refine hK.out _ _ (hHeld.grown hp9.only (by intro h; injection h with h; have := HPW.out; omega)) (fun hHeld => ?_)
          clear hK K
          try simp only [Act.put, List.setIfInBounds_toArray, List.set_cons_zero, List.set_cons_succ, List.getElem_toArray, List.getElem_cons_zero, List.getElem_cons_succ]
          refine wpAnyH_take (i := 3) (v := ?_) rfl (by kernel_rfl) (by kernel_rfl) (by kernel_rfl) (fun _ _ _ h => h) (Or.inl ⟨by rfl, ?_⟩) (by assumption) ?_
          rotate_left
          · intro w hSw
            (try dsimp only at hSw)
            go_simp
            try with_reducible rfl
          try simp only [Act.put, List.setIfInBounds_toArray, List.set_cons_zero, List.set_cons_succ, List.getElem_toArray, List.getElem_cons_zero, List.getElem_cons_succ]
          refine wpAnyH_done (by kernel_rfl) ?_ _
          clear hHeld
          have HZ9 : Hid (Bk w9 w.heap.size 101 (sgC 0 zeroD (.slice none 0 0) (.slice none 0 0))) := by show Bk _ _ _ _; have := hp9.bk; simpa using this
          have HBB9 := Lib.hid (below_only (HBBf.out.trans (below_draws wf _ 1)) hp9.only HBBf.out.size (Nat.le_refl _))
          clear hp9
          go_wp2_with fail
          refine bodyPost_ret (dec_sret zero_ok HZ9.out _ rfl rfl) rfl ?_
          rw [HFIN.out]
          exact ⟨none, none, 0, 0, 0, 0, [], rfl, World.ownsRow_nil _ _ _ _, World.ownsRow_nil _ _ _ _, PcsOwn.nil_ _ _, rfl, HBB9.out⟩
      · have he0 : (E == 0) = false := by simpa using he
        have HNE := Lib.hid he
        have HKEr := HKE
        have HFIN : Hid (decS bs = ⟨zeroD, 0, [], [], E⟩) := by show _ = _; rw [decS, endD, HE.out, if_neg he, if_neg he]
        clear he
        have ce := one_cell HKEr.out
        have hne : (E != 0) = true := by simpa using HNE.out
        clear ce0
        go_wp2_with fail
        refine wp_region_held_drew (S := fun w' => Bk w' (p + 1 + 1 + 1) 27 [.int .i64 E]) (by kernel_rfl) (Bk.drew HKEr.out) (fun hHeld => ?_)
        refine wpAnyH_take (i := 0) (v := .agg (List.toArray (sgC 0 zeroD (.slice none 0 0) (.slice none 0 0)))) rfl (by kernel_rfl) (by kernel_rfl) (by kernel_rfl) (fun _ _ _ h => h) (yieldsIf_build (by rfl) _ _ rfl #[] (by simp [Act.eval]) _ (build_sg0)) (by assumption) ?_
        try simp only [Act.put, List.setIfInBounds_toArray, List.set_cons_zero, List.set_cons_succ, List.getElem_toArray, List.getElem_cons_zero, List.getElem_cons_succ]
        refine wpAnyH_take (i := 1) (v := ?_) rfl (by kernel_rfl) (by kernel_rfl) (by kernel_rfl) (fun _ _ _ h => h) (Or.inl ⟨by rfl, ?_⟩) (by assumption) ?_
        rotate_left
        · intro w hSw
          have hcell := (one_cell hSw)
          clear hSw
          go_simp
          try with_reducible rfl
        try simp only [Act.put, List.setIfInBounds_toArray, List.set_cons_zero, List.set_cons_succ, List.getElem_toArray, List.getElem_cons_zero, List.getElem_cons_succ]
        refine wpAnyH_ready (rs := [2]) (by kernel_rfl) (by simp) ?_
        refine AllReadyH.cons rfl (fun K hK => ?_) AllReadyH.nil
        rw [if_pos (by rfl)]
        refine wp_store_part _ _ _ rfl w.heap.size 0 _ (sgC 0 zeroD (.slice none 0 0) (.slice none 0 0)) rfl rfl rfl _ ([]) (sgC 0 zeroD (.slice none 0 0) (.slice none 0 0)) ([]) (by have := HZr.out.drew; simpa using this) rfl rfl (sg_info zero_ok) sg_one ?_
        intro w9 hp9
        refine hK.out _ _ (hHeld.grown hp9.only (by intro h; injection h with h; have := HPW.out; omega)) (fun hHeld => ?_)
        clear hK K
        try simp only [Act.put, List.setIfInBounds_toArray, List.set_cons_zero, List.set_cons_succ, List.getElem_toArray, List.getElem_cons_zero, List.getElem_cons_succ]
        refine wpAnyH_take (i := 3) (v := ?_) rfl (by kernel_rfl) (by kernel_rfl) (by kernel_rfl) (fun _ _ _ h => h) (Or.inl ⟨by rfl, ?_⟩) (by assumption) ?_
        rotate_left
        · intro w hSw
          (try dsimp only at hSw)
          go_simp
          try with_reducible rfl
        try simp only [Act.put, List.setIfInBounds_toArray, List.set_cons_zero, List.set_cons_succ, List.getElem_toArray, List.getElem_cons_zero, List.getElem_cons_succ]
        refine wpAnyH_done (by kernel_rfl) ?_ _
        clear hHeld
        have HZ9 : Hid (Bk w9 w.heap.size 101 (sgC 0 zeroD (.slice none 0 0) (.slice none 0 0))) := by show Bk _ _ _ _; have := hp9.bk; simpa using this
        have HBB9 := Lib.hid (below_only (HBBr.out.trans (below_draws wr _ 1)) hp9.only HBBr.out.size (Nat.le_refl _))
        clear hp9
        go_wp2_with fail
        refine bodyPost_ret (dec_sret zero_ok HZ9.out _ rfl rfl) rfl ?_
        rw [HFIN.out]
        exact ⟨none, none, 0, 0, 0, 0, [], rfl, World.ownsRow_nil _ _ _ _, World.ownsRow_nil _ _ _ _, PcsOwn.nil_ _ _, rfl, HBB9.out⟩
end Go.Proofs.Ythibihjblodfmaa
