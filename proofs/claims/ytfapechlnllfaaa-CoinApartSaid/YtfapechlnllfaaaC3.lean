/- baizeref03.Split: the same parts as coin.Split's. -/
import Derived.Test.YtfapechlnllfaaaC2
namespace Go.Proofs.Ytfapechlnllfaaa
open Go.RowKit

theorem Try.infoInt : (Try.prog.info? 3).map (fun i => (i.zero, i.size, i.bytes)) = some (some (.int .i64 0), 1, 8) := by kernel_rfl

set_option maxHeartbeats 800000 in
theorem rsplit_any (total : Int) (A : Option Addr) (n c : Nat) (ws : List Int) (w : World) (h : Sl w w.heap.size 1 A n (ws.map (.int .i64))) :
    Calls Try.prog 17 #[.int .i64 total, .slice A n c] w fun e w' => ∃ v, e = .returned (.tuple #[v, .int .i64 (splitG total ws).2]) ∧
      w'.ownsRow w.heap.size 3 1 v (splitG total ws).1.length ((splitG total ws).1.map (.int .i64)) ∧ Below w.heap.size w w' := by
  have hn := h.le
  have hl := h.length
  have H := Lib.hid h; clear h
  have HL := Lib.hid hl; clear hl
  obtain ⟨i0, hi, hz0, hz1, hz2⟩ := info_parts Try.infoInt
  by_cases ht : rightB total = true
  · by_cases h8 : 0 < n ∧ n ≤ 8
    · obtain ⟨h1, h2⟩ := right_of ht
      obtain ⟨h3, h4⟩ := h8
      have hz : ((n : Int) == 0) = false := by simp; omega
      have hn8 : ¬ (ws.length = 0 ∨ 8 < ws.length) := by have := HL.out; omega
      have HN8 := Lib.hid hn8; clear hn8
      go_enter Try.func17, Try.ntmps17
      go_wp2_with (go_at_call 35; refine (rright_any _ _).mono ?_; rintro e w' ⟨rfl, rfl⟩)
      go_loop [6, 7] (fun s i => ∃ (k : Nat) (sv : Int), k ≤ n ∧ i = .int .i64 k ∧ s = .int .i64 sv ∧ 0 ≤ sv ∧ sv ≤ 1024 * k ∧ Hid (wsum sv (ws.drop k) = wsum 0 ws)) (fun _ i => n - (intOf i).toNat)
      case atStart => exact ⟨0, 0, Nat.zero_le _, rfl, rfl, by omega, by omega, rfl⟩
      case round =>
        obtain ⟨k, sv, hk, rfl, rfl, hs0, hs1, hs⟩ := hrel
        by_cases hlt : k < n
        · obtain ⟨ad, z, rfl, hb, hz', hc⟩ := H.out.at_ hlt
          have HZ := Lib.hid hz'; clear hz'
          have e1 := hs.out
          rw [drop_cons HZ.out] at e1
          have HS := Lib.hid e1; clear e1 hs
          go_wp2_with fail
          · go_ret2
            go_light
            have e2 : wsum 0 ws = none := by rw [← HS.out]; simp only [wsum]; exact if_pos (by omega)
            rw [split_none total ws ht HN8.out e2]
            exact ⟨.slice none 0 0, rfl, World.ownsRow_nil _ _ _ _, Below.refl _ _⟩
          · go_ret2
            go_light
            have e2 : wsum 0 ws = none := by rw [← HS.out]; simp only [wsum]; exact if_pos (by omega)
            rw [split_none total ws ht HN8.out e2]
            exact ⟨.slice none 0 0, rfl, World.ownsRow_nil _ _ _ _, Below.refl _ _⟩
          · go_round
            case rel => exact ⟨k + 1, sv + z, by omega, by go_num, rfl, by omega, by omega, by rw [← HS.out]; simp only [wsum]; rw [if_neg (by omega)]; rfl⟩
            case measure => simp [intOf]; omega
        · have e1 := hs.out
          rw [List.drop_eq_nil_of_le (by have := HL.out; omega)] at e1
          have HS := Lib.hid e1.symm; clear e1 hs
          by_cases h0 : sv = 0
          · subst h0
            go_wp2_with fail
            go_ret2
            go_light
            rw [split_zero total ws ht HN8.out HS.out]
            exact ⟨.slice none 0 0, rfl, World.ownsRow_nil _ _ _ _, Below.refl _ _⟩
          · have h0' : (sv == 0) = false := by simp [h0]
            have h0'' : 0 < sv := by omega
            obtain rfl : k = n := by omega
            have hm := fun x hx => (wsum_mono ws 0 sv HS.out).2 x hx
            have HM := Lib.hid hm; clear hm
            have HNN := Lib.hid (left_nonneg (total := total) h0'' HS.out)
            clear hk hlt hs1 hs0 h0
            have HP := split_some total ws ht HN8.out HS.out (by omega)
            have HP' := Lib.hid HP; clear HP
            go_wp2_with fail
            go_loopw [8, 9, 10] (fun o l i wr => ∃ (j : Nat) (lv : Int), j ≤ k ∧ i = .int .i64 j ∧ l = .int .i64 lv ∧ lv ≤ total ∧ -1125899906842624 * (j : Int) ≤ lv ∧ wr.ownsRow w.heap.size 3 1 o j ((partsG total sv (ws.take j)).map (.int .i64)) ∧ Below w.heap.size w wr ∧
               Hid (leftG lv (partsG total sv (ws.drop j)) = leftG total (partsG total sv ws))) (fun _ _ i _ => k - (intOf i).toNat)
            case atStart => exact ⟨0, total, Nat.zero_le _, rfl, rfl, by omega, by omega, World.ownsRow_nil _ _ _ _, Below.refl _ _, rfl⟩
            case round =>
              obtain ⟨j, lv, hj, rfl, rfl, hl1, hl2, hown, hbl, hlv⟩ := hrel
              by_cases hlt : j < k
              · obtain ⟨ad, z, rfl, hb, hz', hc⟩ := (H.out.below hbl).at_ hlt
                have hm := HM.out z (List.mem_of_getElem? hz')
                have hp := part_le (all := sv) h1 hm.1 (by omega) h0''
                have hpr := prod_le h1 h2 hm.1 hm.2.1
                have HZ := Lib.hid hz'; clear hz'
                go_wp2_with (at_builtin; refine wpList_app _ rfl (.tmp 56) (.tmp 65) 24 rfl w.heap.size 3 i0 (.int .i64 0) 1 8 Try.underlying24 hi hz0 hz1 hz2 rfl (by decide) _ _ _ rfl (hown.alloc _) _ _ 1 1 [.int .i64 (total * z / sv)] rfl (sl_new _ #[_] _ 1 1 rfl (by omega)) (by simp [Value.oneCell']) (by unfold maxLen; omega) (by omega) (by have := hbl.size; simp; omega) ?_; intro v1 w1 hown1 hg1 hat1; obtain ⟨g1, cap1, rfl, hgb1, hglt1⟩ := hown1.form (by omega); have hcl1 := own_last hown1)
                go_roundw
                case rel =>
                  have e1 := hlv.out
                  rw [drop_cons HZ.out] at e1
                  refine ⟨j + 1, lv - total * z / sv, by omega, by go_num, rfl, by omega, by omega, ?_, grown_below (hbl.alloc hbl.size _) (hown.alloc _) hg1 (Nat.le_refl _) (by have := hbl.size; simp; omega), e1⟩
                  have e2 : (partsG total sv (ws.take (j + 1))).map (Value.int .i64) = (partsG total sv (ws.take j)).map (Value.int .i64) ++ [.int .i64 (total * z / sv)] := by rw [take_snoc HZ.out]; simp [partsG]
                  rw [e2]; exact hown1
                case measure => simp [intOf]; omega
              · obtain rfl : j = k := by omega
                have e4 := hlv.out
                rw [List.drop_eq_nil_of_le (by have := HL.out; omega)] at e4
                rw [List.take_of_length_le (by have := HL.out; omega)] at hown
                have H4 := Lib.hid e4; clear e4 hlv
                obtain ⟨g, cap, rfl, hgb, hglt⟩ := hown.form (by omega)
                go_wp2_with fail
                obtain ⟨ps, hps⟩ : ∃ ps, partsG total sv ws = ps := ⟨_, rfl⟩
                have hpb : ∀ x ∈ ps, 0 ≤ x ∧ x ≤ 1125899906842624 := by
                  rw [← hps]
                  intro x hx
                  obtain ⟨y, hy, rfl⟩ := List.mem_map.1 hx
                  have hm := HM.out y hy
                  have hp := part_le (all := sv) h1 hm.1 (by omega) h0''
                  omega
                have hpl : ps.length = j := by rw [← hps]; simp [partsG, HL.out]
                rw [hps] at hown HP' HNN H4
                have HPB := Lib.hid hpb; have HPL := Lib.hid hpl; clear hpb hpl hps
                have h4 : leftG total ps = lv := H4.out.symm
                rw [h4] at HP' HNN
                have hnn := HNN.out
                clear h4 H4 HNN
                go_loopw [9, 11] (fun l i wr => ∃ (m : Nat) (lv' : Int) (xs : List Int), m ≤ j ∧ i = .int .i64 m ∧ l = .int .i64 lv' ∧ lv' ≤ 1125899906842624 ∧ 0 ≤ lv' ∧ wr.ownsRow w.heap.size 3 1 (.slice (some ⟨g, 0, none⟩) j cap) j (xs.map (.int .i64)) ∧ Hid (xs.length = j) ∧ Below w.heap.size w wr ∧
                   Hid (xs.drop m = ps.drop m) ∧ Hid (xs.take m ++ restG lv' (ws.drop m) (ps.drop m) = restG lv ws ps)) (fun _ i _ => j - (intOf i).toNat)
                case atStart => exact ⟨0, lv, ps, Nat.zero_le _, rfl, rfl, by omega, by omega, hown, HPL, hbl, rfl, rfl⟩
                case round =>
                  clear hbl hown
                  obtain ⟨m, lv', xs, hm', rfl, rfl, hl1', hl2', hown, hxl, hbl, hxd, hxr⟩ := hrel
                  have hlen : (xs.map (Value.int .i64)).length = j := by simp [hxl.out]
                  by_cases hlt : m < j
                  · obtain ⟨ad, z, rfl, hb, hz', hc⟩ := (H.out.below hbl).at_ hlt
                    have hzp := (HM.out z (List.mem_of_getElem? hz')).1
                    have HZ := Lib.hid hz'; clear hz'
                    have hx0 : ∃ x0, ps[m]? = some x0 := ⟨ps[m]'(by rw [HPL.out]; exact hlt), List.getElem?_eq_getElem _⟩
                    obtain ⟨x0, hx0⟩ := hx0
                    obtain ⟨hxb1, hxb2⟩ := HPB.out x0 (List.mem_of_getElem? hx0)
                    have hxm : xs[m]? = some x0 := by
                      have := congrArg (·[0]?) hxd.out
                      simpa [hx0] using this
                    have hst : wr.cell? ⟨g, m, none⟩ = some (.int .i64 x0) := by rw [hown.cellAt m (by omega)]; simp [hxm]
                    have hfr : wr.frozen? ⟨g, m, none⟩ = false := hown.frozenAt m
                    have HX := Lib.hid hx0; clear hx0
                    have HXM := Lib.hid hxm; clear hxm
                    have e1 := hxr.out
                    rw [drop_cons HZ.out, drop_cons HX.out] at e1
                    have HR := Lib.hid e1; clear e1
                    have HLE := Lib.hid hlen; clear hlen
                    by_cases h0 : lv' = 0
                    · subst h0
                      go_wp2_with fail
                      go_ret2
                      go_light
                      have hfin : restG lv ws ps = xs := by
                        rw [← HR.out]
                        simp only [restG]
                        rw [if_pos trivial, ← drop_cons HX.out, ← hxd.out, List.take_append_drop]
                      rw [HP'.out]
                      refine ⟨_, rfl, ?_, hbl⟩
                      show wr.ownsRow _ _ _ _ (restG lv ws ps).length ((restG lv ws ps).map _)
                      rw [hfin, hxl.out]
                      exact hown
                    · have hpos : 0 < lv' := by omega
                      by_cases hz0 : z = 0
                      · subst hz0
                        go_wp2_with fail
                        go_roundw
                        case rel =>
                          refine ⟨m + 1, lv', xs, by omega, by go_num, rfl, by omega, by omega, hown, hxl, hbl, ?_, ?_⟩
                          · have := congrArg (List.drop 1) hxd.out; simpa [Hid] using this
                          · show _ = _
                            rw [← HR.out, take_snoc HXM.out]
                            simp only [restG]
                            rw [if_neg h0, if_pos trivial]
                            simp
                        case measure => simp [intOf]; omega
                      · have hzpos : 0 < z := by omega
                        go_wp2_with fail
                        go_roundw
                        case rel =>
                          refine ⟨m + 1, lv' - 1, xs.set m (x0 + 1), by omega, by go_num, rfl, by omega, by omega, ?_, ?_, hbl.setCell hgb _, ?_, ?_⟩
                          · rw [List.map_set]; exact (hown.stored m _).1
                          · have := hxl.out; simpa [Hid] using this
                          · have := congrArg (List.drop 1) hxd.out; simpa [Hid, List.drop_set] using this
                          · show _ = _
                            rw [← HR.out, take_snoc (z := x0 + 1) (by rw [List.getElem?_set]; simp [hxl.out, hlt]), List.take_set_of_le (Nat.le_refl _)]
                            simp only [restG]
                            rw [if_neg h0, if_neg hz0]
                            simp
                        case measure => simp [intOf]; omega
                  · obtain rfl : m = j := by omega
                    go_wp2_with fail
                    go_ret2
                    go_light
                    have hfin : restG lv ws ps = xs := by
                      rw [← hxr.out, List.drop_eq_nil_of_le (by have := HL.out; omega), List.drop_eq_nil_of_le (by have := HPL.out; omega), List.take_of_length_le (by have := hxl.out; omega)]
                      simp [restG]
                    rw [HP'.out]
                    refine ⟨_, rfl, ?_, hbl⟩
                    show wr.ownsRow _ _ _ _ (restG lv ws ps).length ((restG lv ws ps).map _)
                    rw [hfin, hxl.out]
                    exact hown
    · have hnl : ws.length = 0 ∨ 8 < ws.length := by have := HL.out; omega
      have HN := Lib.hid (split_len total ws ht hnl); clear hnl
      by_cases h0 : n = 0
      · subst h0
        go_enter Try.func17, Try.ntmps17
        go_wp2_with (go_at_call 35; refine (rright_any _ _).mono ?_; rintro e w' ⟨rfl, rfl⟩)
        go_ret2
        rw [HN.out]
        exact ⟨.slice none 0 0, rfl, World.ownsRow_nil _ _ _ _, Below.refl _ _⟩
      · have hz : ((n : Int) == 0) = false := by simp; omega
        have hz8 : (8 : Int) < n := by omega
        go_enter Try.func17, Try.ntmps17
        go_wp2_with (go_at_call 35; refine (rright_any _ _).mono ?_; rintro e w' ⟨rfl, rfl⟩)
        go_ret2
        rw [HN.out]
        exact ⟨.slice none 0 0, rfl, World.ownsRow_nil _ _ _ _, Below.refl _ _⟩
  · have ht' : rightB total = false := by simpa using ht
    have HN := Lib.hid (split_bad total ws ht')
    go_enter Try.func17, Try.ntmps17
    go_wp2_with (go_at_call 35; refine (rright_any _ _).mono ?_; rintro e w' ⟨rfl, rfl⟩)
    go_ret2
    rw [HN.out]
    exact ⟨.slice none 0 0, rfl, World.ownsRow_nil _ _ _ _, Below.refl _ _⟩
end Go.Proofs.Ytfapechlnllfaaa
