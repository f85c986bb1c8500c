/- coin.Split: the parts of an amount by weights, as the plain function splitG says. -/
import Derived.Test.YthibihjblodfmaaC1
import Derived.Deep.OwnRows
namespace Go.Proofs.Ythibihjblodfmaa
open Go.RowKit

theorem bk_own {w : World} {g base n : Nat} {t : TypeId} {xs : List Value} (h : Bk w g t xs) (hg : base ≤ g) (hn : xs.length = n) (hc : n ≤ 9223372036854775807) : w.ownsRow base t 1 (.slice (some ⟨g, 0, none⟩) n n) n xs :=
  h.own hg (Nat.le_refl _) hc (by omega) (by rw [← hn]; simp)

def wsum : Int → List Int → Option Int
  | s, [] => some s
  | s, x :: l => if x < 0 ∨ 1024 < x then none else wsum (s + x) l
def partsG (total all : Int) (ws : List Int) : List Int := ws.map fun x => total * x / all
def leftG : Int → List Int → Int
  | t, [] => t
  | t, p :: l => leftG (t - p) l
def restG : Int → List Int → List Int → List Int
  | left, x :: ws, p :: ps => if left = 0 then p :: ps else if x = 0 then p :: restG left ws ps else (p + 1) :: restG (left - 1) ws ps
  | _, _, ps => ps

def splitG (total : Int) (ws : List Int) : List Int × Int :=
  if rightB total = false then ([], 2)
  else if ws.length = 0 ∨ 8 < ws.length then ([], 1)
  else match wsum 0 ws with
    | none => ([], 2)
    | some all => if all = 0 then ([], 1) else (restG (leftG total (partsG total all ws)) ws (partsG total all ws), 0)

theorem wsum_mono : ∀ (l : List Int) (s a : Int), wsum s l = some a → s ≤ a ∧ ∀ x ∈ l, 0 ≤ x ∧ x ≤ 1024 ∧ x ≤ a - s
  | [], s, a, h => by simp [wsum] at h; subst h; simp
  | y :: l, s, a, h => by
    unfold wsum at h
    split at h
    · cases h
    · obtain ⟨h1, h2⟩ := wsum_mono l _ _ h
      refine ⟨by omega, fun x hx => ?_⟩
      rcases List.mem_cons.1 hx with rfl | hx
      · omega
      · have := h2 x hx; omega
theorem part_le {total x all : Int} (h0 : 0 ≤ total) (hx : 0 ≤ x) (hxa : x ≤ all) (ha : 0 < all) : 0 ≤ total * x / all ∧ total * x / all ≤ total := by
  refine ⟨Int.ediv_nonneg (Int.mul_nonneg h0 hx) (by omega), ?_⟩
  refine Int.ediv_le_of_le_mul ha ?_
  exact Int.mul_le_mul_of_nonneg_left hxa h0
theorem prod_le {total x : Int} (h0 : 0 ≤ total) (ht : total ≤ 1125899906842624) (hx : 0 ≤ x) (h1 : x ≤ 1024) : 0 ≤ total * x ∧ total * x ≤ 1152921504606846976 := by
  refine ⟨Int.mul_nonneg h0 hx, ?_⟩
  have := Int.mul_le_mul ht h1 hx (by omega)
  omega

theorem split_bad (total : Int) (ws : List Int) (h : rightB total = false) : splitG total ws = ([], 2) := by simp [splitG, h]
theorem split_len (total : Int) (ws : List Int) (h : rightB total = true) (hn : ws.length = 0 ∨ 8 < ws.length) : splitG total ws = ([], 1) := by
  unfold splitG; rw [if_neg (by simp [h]), if_pos hn]
theorem split_none (total : Int) (ws : List Int) (h : rightB total = true) (hn : ¬ (ws.length = 0 ∨ 8 < ws.length)) (hs : wsum 0 ws = none) : splitG total ws = ([], 2) := by
  unfold splitG; rw [if_neg (by simp [h]), if_neg hn, hs]
theorem split_zero (total : Int) (ws : List Int) (h : rightB total = true) (hn : ¬ (ws.length = 0 ∨ 8 < ws.length)) (hs : wsum 0 ws = some 0) : splitG total ws = ([], 1) := by
  unfold splitG; rw [if_neg (by simp [h]), if_neg hn, hs]; simp
theorem split_some (total : Int) (ws : List Int) (h : rightB total = true) (hn : ¬ (ws.length = 0 ∨ 8 < ws.length)) {all : Int} (hs : wsum 0 ws = some all) (ha : all ≠ 0) :
    splitG total ws = (restG (leftG total (partsG total all ws)) ws (partsG total all ws), 0) := by
  unfold splitG; rw [if_neg (by simp [h]), if_neg hn, hs]; simp [ha]

set_option maxHeartbeats 800000 in
theorem split_any (total : Int) (A : Option Addr) (n c : Nat) (ws : List Int) (w : World) (h : Sl w w.heap.size 1 A n (ws.map (.int .i64))) :
    Calls Try.prog 112 #[.int .i64 total, .slice A n c] w fun e w' => ∃ v, e = .returned (.tuple #[v, .int .i64 (splitG total ws).2]) ∧
      w'.ownsRow w.heap.size 3 1 v (splitG total ws).1.length ((splitG total ws).1.map (.int .i64)) ∧ Below w.heap.size w w' := by
  have hn := h.le
  have hl := h.length
  have H := Lib.hid h; clear h
  have HL := Lib.hid hl; clear hl
  have hmk := fun hb => run_make_row' (P := Try.prog) 80 3 (.int .i64 0) 8 Try.underlying80 (by kernel_rfl) rfl .i64 .i64 n hb (by omega)
  by_cases ht : rightB total = true
  · by_cases h8 : 0 < n ∧ n ≤ 8
    · obtain ⟨h1, h2⟩ := right_of ht
      obtain ⟨h3, h4⟩ := h8
      replace hmk := hmk (by omega)
      have hz : ((n : Int) == 0) = false := by simp; omega
      have hn8 : ¬ (ws.length = 0 ∨ 8 < ws.length) := by have := HL.out; omega
      have HN8 := Lib.hid hn8; clear hn8
      go_enter Try.func112, Try.ntmps112
      go_wp2_with fail
      go_step3
      go_wp2_with (go_at_call 111; refine (right_any _ _).mono ?_; rintro e w' ⟨rfl, rfl⟩)
      go_loop [6, 30] (fun s i => ∃ (k : Nat) (sv : Int), k ≤ n ∧ i = .int .i64 k ∧ s = .int .i64 sv ∧ 0 ≤ sv ∧ sv ≤ 1024 * k ∧ Hid (wsum sv (ws.drop k) = wsum 0 ws)) (fun _ i => n - (intOf i).toNat)
      case atStart => exact ⟨0, 0, Nat.zero_le _, rfl, rfl, by omega, by omega, rfl⟩
      case round =>
        obtain ⟨k, sv, hk, rfl, rfl, hs0, hs1, hs⟩ := hrel
        by_cases hlt : k < n
        · obtain ⟨ad, z, rfl, hb, hz', hc⟩ := H.out.at_ hlt
          have HZ := Lib.hid hz'; clear hz'
          have e1 := hs.out
          rw [drop_cons HZ.out] at e1
          have HS := Lib.hid e1; clear e1 hs
          go_wp2_with fail
          · go_ret2
            go_light
            have e2 : wsum 0 ws = none := by rw [← HS.out]; simp only [wsum]; exact if_pos (by omega)
            rw [split_none total ws ht HN8.out e2]
            exact ⟨.slice none 0 0, rfl, World.ownsRow_nil _ _ _ _, Below.refl _ _⟩
          · go_ret2
            go_light
            have e2 : wsum 0 ws = none := by rw [← HS.out]; simp only [wsum]; exact if_pos (by omega)
            rw [split_none total ws ht HN8.out e2]
            exact ⟨.slice none 0 0, rfl, World.ownsRow_nil _ _ _ _, Below.refl _ _⟩
          · go_round
            case rel => exact ⟨k + 1, sv + z, by omega, by go_num, rfl, by omega, by omega, by rw [← HS.out]; simp only [wsum]; rw [if_neg (by omega)]; rfl⟩
            case measure => simp [intOf]; omega
        · have e1 := hs.out
          rw [List.drop_eq_nil_of_le (by have := HL.out; omega)] at e1
          have HS := Lib.hid e1.symm; clear e1 hs
          by_cases h0 : sv = 0
          · subst h0
            go_wp2_with fail
            go_ret2
            go_light
            rw [split_zero total ws ht HN8.out HS.out]
            exact ⟨.slice none 0 0, rfl, World.ownsRow_nil _ _ _ _, Below.refl _ _⟩
          · have h0' : (sv == 0) = false := by simp [h0]
            have h0'' : 0 < sv := by omega
            obtain rfl : k = n := by omega
            have hm := fun x hx => (wsum_mono ws 0 sv HS.out).2 x hx
            have HM := Lib.hid hm; clear hm
            have hbk0 := Bk.new' w 3 (madeCells #[.int .i64 0] k) (xs := (List.replicate k (0 : Int)).map (.int .i64)) (by rw [toList_madeCells_one, List.map_replicate])
            have hbl0 : Below w.heap.size w (w.alloc (.cells (madeCells #[.int .i64 0] k) 3)) := (Below.refl _ _).alloc (Nat.le_refl _) _
            clear hk hlt hs1 hs0 h0
            have HP := split_some total ws ht HN8.out HS.out (by omega)
            have HP' := Lib.hid HP; clear HP
            go_wp2_with fail
            generalize hw1 : w.alloc (.cells (madeCells #[.int .i64 0] k) 3) = w1 at *
            clear hw1
            go_loopw [10, 52] (fun l i wr => ∃ (j : Nat) (lv : Int) (xs : List Int), j ≤ k ∧ i = .int .i64 j ∧ l = .int .i64 lv ∧ lv ≤ total ∧ -1125899906842624 * (j : Int) ≤ lv ∧ Bk wr w.heap.size 3 (xs.map (.int .i64)) ∧ Hid (xs.length = k) ∧ Below w.heap.size w wr ∧
               Hid (xs.take j = partsG total sv (ws.take j)) ∧ Hid (leftG lv (partsG total sv (ws.drop j)) = leftG total (partsG total sv ws))) (fun _ i _ => k - (intOf i).toNat)
            case atStart => exact ⟨0, total, _, Nat.zero_le _, rfl, rfl, by omega, by omega, hbk0, by simp [Hid], hbl0, by simp [Hid, partsG], rfl⟩
            case round =>
              obtain ⟨j, lv, xs, hj, rfl, rfl, hl1, hl2, hbk, hxl, hbl, hxs, hlv⟩ := hrel
              by_cases hlt : j < k
              · obtain ⟨ad, z, rfl, hb, hz', hc⟩ := (H.out.below hbl).at_ hlt
                have hm := HM.out z (List.mem_of_getElem? hz')
                have hp := part_le (all := sv) h1 hm.1 (by omega) h0''
                have hpr := prod_le h1 h2 hm.1 hm.2.1
                have HZ := Lib.hid hz'; clear hz'
                have hx0 : ∃ x0, xs[j]? = some x0 := ⟨xs[j]'(by rw [hxl.out]; exact hlt), List.getElem?_eq_getElem _⟩
                obtain ⟨x0, hx0⟩ := hx0
                have hst : wr.cell? ⟨w.heap.size, j, none⟩ = some (.int .i64 x0) := by rw [hbk.cell]; simp [hx0]
                have hfr : wr.frozen? ⟨w.heap.size, j, none⟩ = false := hbk.frozen j
                clear hx0
                go_wp2_with fail
                go_roundw
                case rel =>
                  have e1 := hlv.out
                  rw [drop_cons HZ.out] at e1
                  have e2 := hxs.out
                  have e3 := hxl.out
                  refine ⟨j + 1, lv - total * z / sv, xs.set j (total * z / sv), by omega, by go_num, rfl, by omega, by omega, ?_, by simp [Hid, e3], hbl.setCell (Nat.le_refl _) _, ?_, e1⟩
                  · rw [List.map_set]; exact hbk.set_ j _
                  · show _ = _
                    rw [take_snoc HZ.out, take_snoc (z := total * z / sv) (by rw [List.getElem?_set]; simp [e3, hlt]), List.take_set_of_le (Nat.le_refl _), e2]
                    simp [partsG]
                case measure => simp [intOf]; omega
              · obtain rfl : j = k := by omega
                have e3 := hxl.out
                have e2 := hxs.out
                have hlw := HL.out
                rw [List.take_of_length_le (by omega), List.take_of_length_le (by omega)] at e2
                subst e2
                have e4 := hlv.out
                rw [List.drop_eq_nil_of_le (by omega)] at e4
                have H4 := Lib.hid e4; clear e4 hlv hxs hlw e3
                go_wp2_with fail
                generalize hps : partsG total sv ws = ps at *
                have hpb : ∀ x ∈ ps, 0 ≤ x ∧ x ≤ 1125899906842624 := by
                  rw [← hps]
                  intro x hx
                  obtain ⟨y, hy, rfl⟩ := List.mem_map.1 hx
                  have hm := HM.out y hy
                  have hp := part_le (all := sv) h1 hm.1 (by omega) h0''
                  omega
                have hpl : ps.length = j := by rw [← hps]; simp [partsG, HL.out]
                have HPB := Lib.hid hpb; have HPL := Lib.hid hpl; clear hpb hpl hps
                obtain ⟨left0, hleft0⟩ : ∃ x, x = leftG total ps := ⟨_, rfl⟩
                rw [← hleft0] at H4 HP'
                have H4' := H4.out; subst H4'; clear hleft0 H4
                go_step3
                go_wp2_with fail
                go_loopw [10, 74] (fun l i wr => ∃ (m : Nat) (lv' : Int) (xs : List Int), m ≤ j ∧ i = .int .i64 m ∧ l = .int .i64 lv' ∧ lv' ≤ 1125899906842624 ∧ -9007199254740992 - (m : Int) ≤ lv' ∧ Bk wr w.heap.size 3 (xs.map (.int .i64)) ∧ Hid (xs.length = j) ∧ Below w.heap.size w wr ∧
                   Hid (xs.drop m = ps.drop m) ∧ Hid (xs.take m ++ restG lv' (ws.drop m) (ps.drop m) = restG lv ws ps)) (fun _ i _ => j - (intOf i).toNat)
                case atStart => exact ⟨0, lv, ps, Nat.zero_le _, rfl, rfl, by omega, by omega, hbk, HPL, hbl, rfl, rfl⟩
                case round =>
                  clear hbl hbk
                  obtain ⟨m, lv', xs, hm', rfl, rfl, hl1', hl2', hbk, hxl, hbl, hxd, hxr⟩ := hrel
                  by_cases hlt : m < j
                  · obtain ⟨ad, z, rfl, hb, hz', hc⟩ := (H.out.below hbl).at_ hlt
                    have HZ := Lib.hid hz'; clear hz'
                    have hx0 : ∃ x0, ps[m]? = some x0 := ⟨ps[m]'(by rw [HPL.out]; exact hlt), List.getElem?_eq_getElem _⟩
                    obtain ⟨x0, hx0⟩ := hx0
                    obtain ⟨hxb1, hxb2⟩ := HPB.out x0 (List.mem_of_getElem? hx0)
                    have hxm : xs[m]? = some x0 := by
                      have := congrArg (·[0]?) hxd.out
                      simpa [hx0] using this
                    have hst : wr.cell? ⟨w.heap.size, m, none⟩ = some (.int .i64 x0) := by rw [hbk.cell]; simp [hxm]
                    have hfr : wr.frozen? ⟨w.heap.size, m, none⟩ = false := hbk.frozen m
                    have HX := Lib.hid hx0; clear hx0
                    have HXM := Lib.hid hxm; clear hxm
                    have e1 := hxr.out
                    rw [drop_cons HZ.out, drop_cons HX.out] at e1
                    have HR := Lib.hid e1; clear e1
                    go_wp2_with fail
                    · rw [Exit.noGoto_ret]
                      go_ret2
                      go_light
                      have h0 : lv' = 0 := by simpa using (by assumption : (lv' == 0) = true)
                      have hfin : restG lv ws ps = xs := by
                        rw [← HR.out, h0]
                        simp only [restG]
                        rw [if_pos trivial, ← drop_cons HX.out, ← hxd.out, List.take_append_drop]
                      rw [HP'.out]
                      refine ⟨.slice (some ⟨w.heap.size, 0, none⟩) j j, rfl, ?_, hbl⟩
                      show wr.ownsRow _ _ _ _ (restG lv ws ps).length ((restG lv ws ps).map _)
                      rw [hfin, hxl.out]
                      exact bk_own hbk (Nat.le_refl _) (by simp [hxl.out]) hn
                    · go_roundw
                      case rel =>
                        have h0 : ¬ lv' = 0 := by simpa using (by assumption : (lv' == 0) = false)
                        have h1 : z = 0 := by simpa using (by assumption : (z == 0) = true)
                        refine ⟨m + 1, lv', xs, by omega, by go_num, rfl, by omega, by omega, hbk, hxl, hbl, ?_, ?_⟩
                        · have := congrArg (List.drop 1) hxd.out; simpa [Hid] using this
                        · show _ = _
                          rw [← HR.out, take_snoc HXM.out]
                          simp only [restG]
                          rw [if_neg h0, if_pos h1]
                          simp
                      case measure => simp [intOf]; omega
                    · go_roundw
                      case rel =>
                        have h0 : ¬ lv' = 0 := by simpa using (by assumption : (lv' == 0) = false)
                        have h1 : ¬ z = 0 := by simpa using (by assumption : (z == 0) = false)
                        refine ⟨m + 1, lv' - 1, xs.set m (x0 + 1), by omega, by go_num, rfl, by omega, by omega, ?_, ?_, hbl.setCell (Nat.le_refl _) _, ?_, ?_⟩
                        · rw [List.map_set]; exact hbk.set_ m _
                        · have := hxl.out; simpa [Hid] using this
                        · have := congrArg (List.drop 1) hxd.out; simpa [Hid, List.drop_set] using this
                        · show _ = _
                          rw [← HR.out, take_snoc (z := x0 + 1) (by rw [List.getElem?_set]; simp [hxl.out, hlt]), List.take_set_of_le (Nat.le_refl _)]
                          simp only [restG]
                          rw [if_neg h0, if_neg h1]
                          simp
                      case measure => simp [intOf]; omega
                  · obtain rfl : m = j := by omega
                    go_wp2_with fail
                    try rw [Exit.noGoto_ret]
                    go_ret2
                    go_light
                    have hfin : restG lv ws ps = xs := by
                      rw [← hxr.out, List.drop_eq_nil_of_le (by have := HL.out; omega), List.drop_eq_nil_of_le (by have := HPL.out; omega), List.take_of_length_le (by have := hxl.out; omega)]
                      simp [restG]
                    rw [HP'.out]
                    refine ⟨.slice (some ⟨w.heap.size, 0, none⟩) m m, rfl, ?_, hbl⟩
                    show wr.ownsRow _ _ _ _ (restG lv ws ps).length ((restG lv ws ps).map _)
                    rw [hfin, hxl.out]
                    exact bk_own hbk (Nat.le_refl _) (by simp [hxl.out]) hn
    · have hnl : ws.length = 0 ∨ 8 < ws.length := by have := HL.out; omega
      have HN := Lib.hid (split_len total ws ht hnl); clear hnl
      by_cases h0 : n = 0
      · subst h0
        go_enter Try.func112, Try.ntmps112
        go_wp2_with fail
        go_step3
        go_wp2_with (go_at_call 111; refine (right_any _ _).mono ?_; rintro e w' ⟨rfl, rfl⟩)
        try rw [Exit.noGoto_ret]
        go_ret2
        rw [HN.out]
        exact ⟨.slice none 0 0, rfl, World.ownsRow_nil _ _ _ _, Below.refl _ _⟩
      · have hz : ((n : Int) == 0) = false := by simp; omega
        have hz8 : (8 : Int) < n := by omega
        go_enter Try.func112, Try.ntmps112
        go_wp2_with fail
        go_step3
        go_wp2_with (go_at_call 111; refine (right_any _ _).mono ?_; rintro e w' ⟨rfl, rfl⟩)
        try rw [Exit.noGoto_ret]
        go_ret2
        rw [HN.out]
        exact ⟨.slice none 0 0, rfl, World.ownsRow_nil _ _ _ _, Below.refl _ _⟩
  · have ht' : rightB total = false := by simpa using ht
    have HN := Lib.hid (split_bad total ws ht')
    go_enter Try.func112, Try.ntmps112
    go_wp2_with fail
    go_step3
    go_wp2_with (go_at_call 111; refine (right_any _ _).mono ?_; rintro e w' ⟨rfl, rfl⟩)
    try rw [Exit.noGoto_ret]
    go_ret2
    rw [HN.out]
    exact ⟨.slice none 0 0, rfl, World.ownsRow_nil _ _ _ _, Below.refl _ _⟩

theorem left_low {total all : Int} (ha : 0 < all) : ∀ (l : List Int) (t s a : Int), wsum s l = some a → t * all - total * (a - s) ≤ leftG t (partsG total all l) * all
  | [], t, s, a, h => by
    simp [wsum] at h; subst h
    simp [leftG, partsG]
  | x :: l, t, s, a, h => by
    unfold wsum at h
    split at h
    · cases h
    · have ih := left_low (total := total) ha l (t - total * x / all) (s + x) a h
      show _ ≤ leftG (t - total * x / all) (partsG total all l) * all
      have h1 : total * x / all * all ≤ total * x := Int.ediv_mul_le _ (by omega)
      have h2 : (t - total * x / all) * all = t * all - total * x / all * all := Int.sub_mul _ _ _
      have h3 : total * (a - (s + x)) = total * (a - s) - total * x := by rw [← Int.mul_sub]; congr 1; omega
      rw [h2, h3] at ih
      omega
theorem left_nonneg {total all : Int} {ws : List Int} (ha : 0 < all) (h : wsum 0 ws = some all) : 0 ≤ leftG total (partsG total all ws) := by
  have h1 := left_low (total := total) ha ws total 0 all h
  rcases Int.lt_or_le (leftG total (partsG total all ws)) 0 with h2 | h2
  · have h3 : leftG total (partsG total all ws) * all ≤ (-1) * all := Int.mul_le_mul_of_nonneg_right (by omega) (by omega)
    have h4 : total * (all - 0) = total * all := by simp
    omega
  · exact h2
end Go.Proofs.Ythibihjblodfmaa
