/- FundTurn. -/
import Derived.Test.YtfapechlnllfaabF6
namespace Go.Proofs.Ytfapechlnllfaab
open Go.RowKit

theorem start_cells {w1 w2 : World} {g : Nat} {t : TypeId} {v0 v1 : Value} (hb : Bk w1 g t [v0, v1]) (h : Below w1.heap.size w1 w2) : w2.cell? ⟨g, 0, none⟩ = some v0 ∧ w2.cell? ⟨g, 1, none⟩ = some v1 :=
  ⟨by rw [(hb.later h).cell]; rfl, by rw [(hb.later h).cell]; rfl⟩

def kf (F n : Nat) (bk : Bool) (t : Nat) : Nat := if bk then n - 1 - (F + t) % n else (F + t) % n
theorem kf_lt {F n : Nat} {bk : Bool} {t : Nat} (h : 0 < n) : kf F n bk t < n := by
  have := Nat.mod_lt (F + t) h
  unfold kf; split <;> omega
theorem kf_inj {F n : Nat} {bk : Bool} {t s : Nat} (h2 : 2 ≤ n) (h8 : n ≤ 8) (ht : t < n) (hs : s < n) (h : kf F n bk t = kf F n bk s) : t = s := by
  have h3 : n = 2 ∨ n = 3 ∨ n = 4 ∨ n = 5 ∨ n = 6 ∨ n = 7 ∨ n = 8 := by omega
  unfold kf at h
  rcases h3 with rfl | rfl | rfl | rfl | rfl | rfl | rfl <;> cases bk <;> simp at h <;> omega
theorem kf_sur {F n : Nat} {bk : Bool} {j : Nat} (h2 : 2 ≤ n) (h8 : n ≤ 8) (hj : j < n) : ∃ t, t < n ∧ kf F n bk t = j := by
  have h3 : n = 2 ∨ n = 3 ∨ n = 4 ∨ n = 5 ∨ n = 6 ∨ n = 7 ∨ n = 8 := by omega
  unfold kf
  cases bk
  · refine ⟨(j + n - F % n) % n, Nat.mod_lt _ (by omega), ?_⟩
    rcases h3 with rfl | rfl | rfl | rfl | rfl | rfl | rfl <;> simp <;> omega
  · refine ⟨((n - 1 - j) + n - F % n) % n, Nat.mod_lt _ (by omega), ?_⟩
    rcases h3 with rfl | rfl | rfl | rfl | rfl | rfl | rfl <;> simp <;> omega

/-- Those seats have laid that a list of turns names. -/
def laidBy (n : Nat) (f : Nat → Nat) : Nat → List Bool
  | 0 => List.replicate n false
  | t + 1 => (laidBy n f t).set (f t) true
theorem laidBy_len {n : Nat} {f : Nat → Nat} : ∀ t, (laidBy n f t).length = n
  | 0 => by simp [laidBy]
  | t + 1 => by simp [laidBy, laidBy_len t]
theorem laidBy_get {n : Nat} {f : Nat → Nat} {j : Nat} (hj : j < n) : ∀ t, (laidBy n f t)[j]? = some (decide (∃ s, s < t ∧ f s = j))
  | 0 => by simp [laidBy, hj]
  | t + 1 => by
    rw [laidBy, List.getElem?_set, laidBy_len t, laidBy_get hj t]
    by_cases h : f t = j
    · rw [if_pos h, if_pos (by rw [h]; exact hj)]
      simp only [Option.some.injEq]
      exact (decide_eq_true ⟨t, by omega, h⟩).symm
    · rw [if_neg h]
      simp only [Option.some.injEq, decide_eq_decide]
      constructor
      · rintro ⟨s, h1, h2⟩; exact ⟨s, by omega, h2⟩
      · rintro ⟨s, h1, h2⟩
        refine ⟨s, ?_, h2⟩
        have : s ≠ t := by rintro rfl; exact h h2
        omega
theorem laidBy_full {n : Nat} {f : Nat → Nat} (h : ∀ j, j < n → ∃ t, t < n ∧ f t = j) : laidBy n f n = List.replicate n true := by
  apply List.ext_getElem?
  intro j
  by_cases hj : j < n
  · rw [laidBy_get hj, List.getElem?_replicate, if_pos hj]
    simp only [Option.some.injEq, decide_eq_true_eq]
    exact h j hj
  · rw [List.getElem?_eq_none (by rw [laidBy_len]; omega), List.getElem?_eq_none (by simp; omega)]

/-- A seat that hasn't laid yet lays its stake in time. -/
theorem lay_can {l : List Int} {d : List Bool} {b now x : Int} {k : Nat} (hk : k < l.length) (hb : now ≤ b) (hd : d[k]? = some false) (hx : l[k]? = some x) : layE l d b k x now = 0 ∧ layD l d b k x now = d.set k true := by
  have h : layE l d b k x now = 0 := by
    unfold layE
    rw [if_neg (by rw [has_true hk]; decide), if_neg (by omega), if_neg (by simp [List.getD_eq_getElem?_getD, hd]), if_neg (by simp [List.getD_eq_getElem?_getD, hx])]
  exact ⟨h, by rw [layD, if_pos h]; simp⟩

set_option maxHeartbeats 1000000 in
theorem law_FundTurn (A : Option Addr) (n c : Nat) (zs : List Int) (b : Int) (F : Nat) (hF : F < 256) (bk : Bool) (w : World) (h : Sl w w.heap.size 1 A n (zs.map (.int .i64))) :
    Calls Try.prog 3 #[.agg #[.slice A n c, .int .i64 b], .int .u8 F, .bool bk] w fun e w' => e = .returned (.bool true) ∧ Below w.heap.size w w' := by
  have hl := h.length
  have HL := Lib.hid hl; clear hl
  obtain ⟨w1, hw1⟩ : ∃ w1, w.alloc (.cells #[.slice A n c, .int .i64 b] 24) = w1 := ⟨_, rfl⟩
  have hb1 : Below w.heap.size w w1 := hw1 ▸ below_new _ _
  have hs1 := h.later hb1
  have hk1 : Bk w1 w.heap.size 24 [.slice A n c, .int .i64 b] := hw1 ▸ Bk.new w _ #[.slice A n c, .int .i64 b]
  have HK := Lib.hid hk1
  have HS := Lib.hid hs1
  have HW := Lib.hid hw1
  obtain ⟨c0, c1⟩ := start_cells hk1 (Below.refl _ _)
  have hlt := hk1.lt
  clear h hk1 hs1 hw1
  go_enter Try.func3, Try.ntmps3
  go_wp2_with fail
  rw [HW.out]
  refine (new_any _ _ _ _ _ _ HS.out).mono ?_
  rintro e w2 (⟨hne, rfl, rfl⟩ | ⟨hz, rfl, hfa, hb2⟩)
  · have hk : (newE zs b == 0) = false := by simpa using hne
    have HN := Lib.hid hne
    go_wp2_with fail
    refine (new_any _ _ _ _ _ _ HS.out).mono ?_
    rintro e w2 (⟨hne2, rfl, rfl⟩ | ⟨hz, _⟩)
    · go_wp2_with (go_at_call 12; refine (told_any _).mono ?_; rintro e w' ⟨rfl, hbt⟩)
      go_ret
      exact ⟨rfl, below_then hb1 hbt⟩
    · exact absurd hz HN.out
  · obtain ⟨hc0, hc1⟩ := start_cells HK.out hb2
    go_wp2_with fail
    refine (new_any _ _ _ _ _ _ (HS.out.later hb2)).mono ?_
    rintro e w3 (⟨hne2, _⟩ | ⟨hz, rfl, hfb, hb3⟩)
    · exact absurd hz hne2
    have ok := (new_ok_of hz).1
    have n2 := ok.n2
    have n8 := ok.n8
    rw [HL.out] at n2 n8
    have hbw := below_then hb2 hb3
    have hfa3 := hfa.later hb3
    obtain ⟨ga, hga⟩ : ∃ ga, w1.heap.size = ga := ⟨_, rfl⟩
    obtain ⟨gb, hgb⟩ : ∃ gb, w2.heap.size = gb := ⟨_, rfl⟩
    have hab : ga < gb := by have := hfa.lt; omega
    rw [hga] at hfa3 hlt ⊢
    rw [hgb] at hfb ⊢
    rw [HL.out] at hfa3 hfb
    obtain ⟨ad, rfl, hadb, _⟩ := HS.out.mem (by omega)
    have HFA := Lib.hid hfa3; have HFB := Lib.hid hfb; have HOK := Lib.hid ok; have HGA := Lib.hid hga
    obtain ⟨d0, d1⟩ := start_cells HK.out hbw
    have n0 : ((n : Int) == 0) = false := by simp; omega
    have n0' : (0 : Int) < n := by omega
    clear hfa hfa3 hfb hb3 hb2 c0 c1 hc0 hc1 hz ok hga
    go_wp2_with fail
    go_loopw [12, 13] (fun ix kx wr => ∃ t : Nat, t ≤ n ∧ ix = .int .i64 t ∧ FundAt wr ga zs (laidBy n (fun s => s) t) b ∧ FundAt wr gb zs (laidBy n (kf F n bk) t) b ∧ Below w1.heap.size w1 wr) (fun ix _ _ => n - (intOf ix).toNat)
    case atStart => exact ⟨0, Nat.zero_le _, rfl, HFA.out, HFB.out, hbw⟩
    case round =>
      obtain ⟨t, ht, rfl, hfa, hfb, hbl⟩ := hrel
      obtain ⟨e0, e1⟩ := start_cells HK.out hbl
      by_cases hlt : t < n
      · have hsl := HS.out.later hbl
        obtain ⟨ad', x, hA, _, hx, hcx⟩ := hsl.at_ hlt
        injection hA with hA; subst hA
        have hb0 := HOK.out.b0
        have hz := HL.out
        obtain ⟨q, hq⟩ : ∃ q, (F + t) % n = q := ⟨_, rfl⟩
        have hqn : q < n := by rw [← hq]; exact Nat.mod_lt _ (by omega)
        have hqi : ((F : Int) + (t : Int)) % (n : Int) = (q : Nat) := by rw [← hq]; simp
        obtain ⟨kk, hkk⟩ : ∃ kk, kf F n bk t = kk := ⟨_, rfl⟩
        have hkn : kk < n := by rw [← hkk]; exact kf_lt (by omega)
        have hkq : kk = if bk then n - 1 - q else q := by rw [← hkk, kf, hq]
        obtain ⟨ad', y, hA, _, hy, hcy⟩ := hsl.at_ hkn
        injection hA with hA; subst hA
        have hda : (laidBy n (fun s => s) t)[t]? = some false := by
          rw [laidBy_get hlt]; simp
        have hdb : (laidBy n (kf F n bk) t)[kk]? = some false := by
          rw [laidBy_get hkn]
          simp only [Option.some.injEq, decide_eq_false_iff_not]
          rintro ⟨s, h1, h2⟩
          rw [← hkk] at h2
          have := kf_inj n2 n8 (by omega) hlt h2
          omega
        obtain ⟨la, lda⟩ := lay_can (by omega) hb0 hda hx
        obtain ⟨lb, ldb⟩ := lay_can (by omega) hb0 hdb hy
        have ldb' : layD zs (laidBy n (kf F n bk) t) b kk y 0 = laidBy n (kf F n bk) (t + 1) := by rw [ldb, laidBy, hkk]
        have lda' : layD zs (laidBy n (fun s => s) t) b t x 0 = laidBy n (fun s => s) (t + 1) := by rw [lda, laidBy]
        have hy2 := hy
        clear lda ldb hda hdb hx hy hsl
        have HFA := Lib.hid hfa; have HFB := Lib.hid hfb; have HBL := Lib.hid hbl
        have LA := Lib.hid la; have LB := Lib.hid lb; have LDA := Lib.hid lda'; have LDB := Lib.hid ldb'
        clear hfa hfb hbl la lb lda' ldb'
        have hnq : bk = true → ((n : Int) - 1 - (q : Int)) = (kk : Nat) := fun e => by rw [hkq, e]; simp; omega
        have hfin : ∀ wb, FundAt wb gb zs (laidBy n (kf F n bk) (t + 1)) b → FundAt wb ga zs (laidBy n (fun s => s) (t + 1)) b → Below w1.heap.size w1 wb → ∃ t' : Nat, t' ≤ n ∧ Value.int .i64 ((t : Int) + 1) = .int .i64 t' ∧ FundAt wb ga zs (laidBy n (fun s => s) t') b ∧ FundAt wb gb zs (laidBy n (kf F n bk) t') b ∧ Below w1.heap.size w1 wb :=
          fun wb h1 h2 h3 => ⟨t + 1, by omega, by simp, h2, h1, h3⟩
        have HFIN := Lib.hid hfin; clear hfin
        have HY := Lib.hid hy2
        cases bk
        · have hqk : q = kk := by rw [hkq]; rfl
          subst hqk
          clear hnq hkq
          go_wp2_with fail
          refine (lay_t LA.out LDA.out _ _ HFA.out).mono ?_
          rintro e wa ⟨rfl, hfa', hga'⟩
          have hbl2 := below_only HBL.out hga' HBL.out.size (by rw [HGA.out]; exact Nat.le_refl _)
          obtain ⟨f0, f1⟩ := start_cells HK.out hbl2
          obtain ⟨_, y', hA, _, hy', hcy'⟩ := (HS.out.later hbl2).at_ hkn
          injection hA with hA; subst hA
          have hyy : y' = y := by have := HY.out; rw [hy'] at this; injection this
          subst hyy
          have hfb2 := HFB.out.grown hga' (by simp; omega)
          have HFA2 := Lib.hid hfa'; have HFB2 := Lib.hid hfb2; have HBL2 := Lib.hid hbl2
          clear hy' hcx hcy hfa' hfb2 hbl2 hga' e0 e1
          go_wp2_with fail
          refine (lay_t LB.out LDB.out _ _ HFB2.out).mono ?_
          rintro e wb ⟨rfl, hfb', hgb'⟩
          have hbl3 := below_only HBL2.out hgb' HBL2.out.size (by rw [HGA.out]; omega)
          have hfa'' := HFA2.out.grown hgb' (by simp; omega)
          go_wp2_with fail
          go_roundw
          case rel => exact HFIN.out wb hfb' hfa'' hbl3
          case measure => simp [intOf]; omega
        · have hnk := hnq rfl
          clear hnq hkq
          go_wp2_with fail
          refine (lay_t LA.out LDA.out _ _ HFA.out).mono ?_
          rintro e wa ⟨rfl, hfa', hga'⟩
          have hbl2 := below_only HBL.out hga' HBL.out.size (by rw [HGA.out]; exact Nat.le_refl _)
          obtain ⟨f0, f1⟩ := start_cells HK.out hbl2
          obtain ⟨_, y', hA, _, hy', hcy'⟩ := (HS.out.later hbl2).at_ hkn
          injection hA with hA; subst hA
          have hyy : y' = y := by have := HY.out; rw [hy'] at this; injection this
          subst hyy
          have hfb2 := HFB.out.grown hga' (by simp; omega)
          have HFA2 := Lib.hid hfa'; have HFB2 := Lib.hid hfb2; have HBL2 := Lib.hid hbl2
          clear hy' hcx hcy hfa' hfb2 hbl2 hga' e0 e1
          go_wp2_with fail
          refine (lay_t LB.out LDB.out _ _ HFB2.out).mono ?_
          rintro e wb ⟨rfl, hfb', hgb'⟩
          have hbl3 := below_only HBL2.out hgb' HBL2.out.size (by rw [HGA.out]; omega)
          have hfa'' := HFA2.out.grown hgb' (by simp; omega)
          go_wp2_with fail
          go_roundw
          case rel => exact HFIN.out wb hfb' hfa'' hbl3
          case measure => simp [intOf]; omega
      · obtain rfl : t = n := by omega
        have hsur : ∀ j, j < t → ∃ s, s < t ∧ kf F t bk s = j := fun j hj => kf_sur n2 n8 hj
        rw [laidBy_full hsur] at hfb
        rw [laidBy_full (fun j hj => ⟨j, hj, rfl⟩)] at hfa
        have HFA := Lib.hid hfa; have HFB := Lib.hid hfb; have HBL := Lib.hid hbl
        clear hfa hfb hbl
        go_wp2_with fail
        refine (fsame_any _ _ _ _ _ _ _ _ _ HFA.out HFB.out).mono ?_
        rintro e w5 ⟨rfl, qn, rfl⟩
        rw [show fsameB zs (List.replicate t true) b zs (List.replicate t true) b = true by simp [fsameB]]
        have hfa5 := HFA.out.drewN qn
        have hbl5 := HBL.out.trans (below_draws wr _ qn)
        go_wp2_with fail
        refine (phase_any _ _ _ _ _ hfa5 0).mono ?_
        rintro e w6 ⟨rfl, hb6⟩
        rw [show phaseG (List.replicate t true) b 0 = 1 by simp [phaseG]]
        have hbl6 := hbl5.trans (hb6.mono hbl5.size)
        go_wp2_with fail
        refine (told_any _).mono ?_
        rintro e w7 ⟨rfl, hb7⟩
        have hbl7 := hbl6.trans (hb7.mono hbl6.size)
        go_wp2_with fail
        go_ret
        exact ⟨rfl, below_then hb1 hbl7⟩
theorem law_FundTurn' (A : Option Addr) (n c : Nat) (zs : List Int) (b f : Int) (bk : Bool) (w : World) (h : Sl w w.heap.size 1 A n (zs.map (.int .i64)) ∧ ∀ z ∈ zs, (Lit.int .i64 z).wf = true) (hf : (Lit.int .u8 f).wf = true) :
    Calls Try.prog 3 #[.agg #[.slice A n c, .int .i64 b], .int .u8 f, .bool bk] w fun e w' => e = .returned (.bool true) ∧ Below w.heap.size w w' := by
  have h1 : 0 ≤ f ∧ f < 256 := by
    have h2 : IntKind.u8.min ≤ f ∧ f ≤ IntKind.u8.max := by simpa [Lit.wf] using hf
    have e1 : IntKind.u8.min = 0 := by decide
    have e2 : IntKind.u8.max = 255 := by decide
    rw [e1, e2] at h2; omega
  obtain ⟨F, rfl⟩ := Int.eq_ofNat_of_zero_le h1.1
  exact law_FundTurn A n c zs b F (by omega) bk w h.1
end Go.Proofs.Ytfapechlnllfaab
