/- The laws CoinKeeps and CoinApart. -/
import Derived.Test.YtfapechlnllfaaaC8
namespace Go.Proofs.Ytfapechlnllfaaa
open Go.RowKit

theorem newE_ok {amount seats : Int} (h : newE amount seats = 0) : rightB amount = true ∧ 1 ≤ seats ∧ seats ≤ 8 := by
  unfold newE at h
  split at h
  · cases h
  · rename_i h1
    split at h
    · rename_i h2; exact ⟨by simpa using h1, h2.1, h2.2⟩
    · cases h

set_option maxHeartbeats 400000 in
theorem law_CoinKeeps (amount seats : Int) (A : Option Addr) (n c : Nat) (l : List (Int × Int)) (last : Int) (w : World) (h : Sl w w.heap.size 2 A n (l.flatMap askV)) (hl : l.length = n) :
    Calls Try.prog 9 #[.int .i64 amount, .int .i64 seats, .agg #[.slice A n c, .int .i64 last]] w fun e w' => e = .returned (.bool true) ∧ Below w.heap.size w w' := by
  by_cases h40 : (40 : Int) < n
  · go_enter Try.func9, Try.ntmps9
    go_wp2_with fail
    go_quiet (fail)
    have hb1 := below_then (below_new w (.cells #[.slice A n c, .int .i64 last] 60)) (below_draws (w.alloc (.cells #[.slice A n c, .int .i64 last] 60)) _ nq)
    go_wp2_with (go_at_call 15; refine (told_any _).mono ?_; rintro e w' ⟨rfl, hbt⟩)
    go_ret
    exact ⟨rfl, below_then hb1 hbt⟩
  by_cases hE : newE amount seats = 0
  · obtain ⟨hr, h1, h8⟩ := newE_ok hE
    obtain ⟨k, rfl⟩ := Int.eq_ofNat_of_zero_le (show 0 ≤ seats by omega)
    exact keeps_ok amount k A n c l last w h hl (by omega) hr (by omega) (by omega)
  · have hE' : (newE amount seats != 0) = true := by simpa using hE
    go_enter Try.func9, Try.ntmps9
    go_wp2_with fail
    go_quiet (fail)
    have hb1 := below_then (below_new w (.cells #[.slice A n c, .int .i64 last] 60)) (below_draws (w.alloc (.cells #[.slice A n c, .int .i64 last] 60)) _ nq)
    go_wp2_with (first
      | (go_at_call 19; refine (new_bad _ _ _ hE).mono ?_; rintro e w' ⟨rfl, rfl⟩)
      | (go_at_call 15; refine (told_any _).mono ?_; rintro e w' ⟨rfl, hbt⟩))
    go_ret
    exact ⟨rfl, below_then hb1 hbt⟩

theorem paid_zero (k : Nat) (ps : List Int) (seat : Int) (h : payIdx k seat < ps.length) : paid k ps seat 0 = ps := by
  unfold paid
  rw [Int.add_zero, List.getD_eq_getElem?_getD, List.getElem?_eq_getElem h]
  simp

/-- How the clone stands to the pot that it was made of. -/
def Moved (mv : Bool) (lv2 lv : Int) (ps2 ps : List Int) : Prop := (mv = false ∧ lv2 = lv ∧ ps2 = ps) ∨ (mv = true ∧ lv2 < lv)
theorem moved_same {mv : Bool} {lv2 lv s : Int} {ps2 ps : List Int} (h : Moved mv lv2 lv ps2 ps) : sameB lv2 s ps2 lv s ps = !mv := by
  rcases h with ⟨rfl, rfl, rfl⟩ | ⟨rfl, h⟩
  · simp [sameB]
  · have : ¬ lv2 = lv := by omega
    simp [sameB, this]
theorem moved_step {mv : Bool} {k : Nat} {lv2 lv seat ask : Int} {ps2 ps : List Int} (h : Moved mv lv2 lv ps2 ps) (hl2 : 0 ≤ lv2) (hi : payIdx k seat < ps2.length) :
    Moved (decide (0 < payOf lv2 ask) || mv) (lv2 - payOf lv2 ask) lv (paid k ps2 seat (payOf lv2 ask)) ps := by
  obtain ⟨h0, h1⟩ := pay_bounds (ask := ask) hl2
  by_cases hp : payOf lv2 ask = 0
  · rw [hp, Int.sub_zero, paid_zero k ps2 seat hi]; simpa using h
  · right
    refine ⟨by simp; left; omega, ?_⟩
    rcases h with ⟨_, rfl, _⟩ | ⟨_, h⟩ <;> omega

set_option maxHeartbeats 2000000 in
theorem apart_ok (amount : Int) (k : Nat) (A1 A2 : Option Addr) (n1 n2 c1 c2 : Nat) (l1 l2 : List (Int × Int)) (w : World) (h1' : Sl w w.heap.size 2 A1 n1 (l1.flatMap askV)) (hl1 : l1.length = n1)
    (h2' : Sl w w.heap.size 2 A2 n2 (l2.flatMap askV)) (hl2 : l2.length = n2) (h20 : n1 ≤ 20) (h20' : n2 ≤ 20)
    (hr : rightB amount = true) (h1 : 1 ≤ k) (h8 : k ≤ 8) :
    Calls Try.prog 6 #[.int .i64 amount, .int .i64 k, .agg #[.slice A1 n1 c1, .slice A2 n2 c2]] w fun e w' => e = .returned (.bool true) ∧ Below w.heap.size w w' := by
  have HL1 := Lib.hid hl1; have HL2 := Lib.hid hl2; clear hl1 hl2
  have H1 := Lib.hid h1'; have H2 := Lib.hid h2'; clear h1' h2'
  have hd1 : decide (20 < n1) = false := by simp; omega
  have hd2 : decide (20 < n2) = false := by simp; omega
  have hd3 : decide ((20 : Int) < n1) = false := by simp; omega
  have hd4 : decide ((20 : Int) < n2) = false := by simp; omega
  go_enter Try.func6, Try.ntmps6
  go_wp2_with fail
  go_quiet (fail)
  have hb1 := below_then (below_new w (.cells #[.slice A1 n1 c1, .slice A2 n2 c2] 51)) (below_draws (w.alloc (.cells #[.slice A1 n1 c1, .slice A2 n2 c2] 51)) _ nq)
  go_wp2_with fail
  generalize (w.alloc (.cells #[.slice A1 n1 c1, .slice A2 n2 c2] 51)).drewN nq = w1 at *
  refine (new_ok amount k w1 hr (by omega) (by omega)).mono ?_
  rintro e w2 ⟨rfl, hp2, hb2⟩
  have ok2 : PotOk amount k [0, 0, 0, 0, 0, 0, 0, 0] := new_pot_ok hr (by omega) (by omega)
  have hbl2 := below_then hb1 hb2
  have hg : w.heap.size ≤ w1.heap.size := hb1.size
  obtain ⟨g, hg'⟩ : ∃ g, g = w1.heap.size := ⟨_, rfl⟩
  rw [← hg'] at hp2 hg ⊢
  clear hg' hb1 hb2
  go_wp2_with fail
  go_loopw [11] (fun ix wr => ∃ (j : Nat) (lv : Int) (ps : List Int), j ≤ n1 ∧ ix = .int .i64 j ∧ PotAt wr g lv k ps ∧ PotOk lv k ps ∧ Below w.heap.size w wr) (fun ix _ => n1 - (intOf ix).toNat)
  case atStart => exact ⟨0, amount, _, Nat.zero_le _, rfl, hp2, ok2, hbl2⟩
  case round =>
    clear hp2 ok2 hbl2
    obtain ⟨j, lv, ps, hj, rfl, hp, ok, hbl⟩ := hrel
    have hps : k ≤ ps.length := by have := hp.len; omega
    have hlv0 := ok.l0
    have hlv1 := ok.l1
    by_cases hlt : j < n1
    · obtain ⟨ab, ao, s, a, rfl, hb, hz, hc0, hc1⟩ := ask_at (H1.out.below hbl) HL1.out hlt
      clear hz
      go_wp2_with fail
      go_still_tail 11, (by kernel_rfl)
      change wpList _ _ _ _ _ wr.drew
      go_wp2_with fail
      refine (pay_any _ _ _ _ _ ((hp.drewN 1)) ok s a).mono ?_
      rintro e w3 ⟨rfl, hp3, hg3⟩
      have ok3 := pay_ok ok s a
      have hbl3 : Below w.heap.size w w3 := below_only hbl.drew hg3 hbl.size hg
      go_wp2_with fail
      go_roundw
      case rel => exact ⟨j + 1, _, _, by omega, by go_num, hp3, ok3, hbl3⟩
      case measure => simp [intOf]; omega
    · go_wp2_with fail
      clear hlt hj
      refine (clone_any _ _ _ _ _ hp).mono ?_
      rintro e w3 ⟨g2, rfl, hg2, ho3, hb3⟩
      have hp3 := hp.later hb3
      have hbl3 := hbl.trans (hb3.mono hbl.size)
      have hg2w : w.heap.size ≤ g2 := Nat.le_trans hbl.size hg2
      have hgne : g ≠ g2 := by have := hp.lt; omega
      have hsm : sameB lv k ps lv k ps = true := by simp [sameB]
      have HSM := Lib.hid hsm; clear hsm
      go_wp2_with fail
      refine (same_any _ _ _ _ _ _ _ _ _ ho3 hp3).mono ?_
      rintro e w4' ⟨rfl, q4, rfl⟩
      rw [HSM.out]
      go_wp2_with fail
      refine (same_any _ _ _ _ _ _ _ _ _ (hp3.drewN q4) (ho3.drewN q4)).mono ?_
      rintro e w5' ⟨rfl, q5, rfl⟩
      rw [HSM.out]
      have hp5 := (hp3.drewN q4).drewN q5
      have ho5 := (ho3.drewN q4).drewN q5
      have hbl5 : Below w.heap.size w ((w3.drewN q4).drewN q5) := (hbl3.trans (below_draws _ _ _)).trans (below_draws _ _ _)
      generalize (w3.drewN q4).drewN q5 = w5 at hp5 ho5 hbl5 ⊢
      clear hp ho3 hp3 hbl hb3 hbl3
      go_wp2_with fail
      refine (pays_any _ _ _ _ _ hp5 ok).mono ?_
      rintro e w6 ⟨v6, rfl, hown6, hb6⟩
      obtain ⟨A6, c6, rfl⟩ := own_form hown6
      have hp6 := hp5.later hb6
      have ho6 := ho5.later hb6
      have hbl6 := hbl5.trans (hb6.mono hbl5.size)
      have hs6 := Sl.of_own hown6
      have hgw : w.heap.size ≤ w5.heap.size := hbl5.size
      have hown6w := own_base hown6 hgw
      clear hp5 ho5 hbl5 hb6 hown6
      go_wp2_with (go_at_call 23; refine (left_any _ _ _ _ _ hp6).mono ?_; rintro e w' ⟨rfl, rfl⟩)
      go_loopw [15, 16] (fun m ix wr => ∃ (j : Nat) (mv : Bool) (lv2 : Int) (ps2 : List Int), j ≤ n2 ∧ ix = .int .i64 j ∧ m = .bool mv ∧ PotAt wr g lv k ps ∧ PotAt wr g2 lv2 k ps2 ∧ PotOk lv2 k ps2 ∧ Below w.heap.size w wr ∧
          wr.ownsRow w.heap.size 3 1 (.slice A6 k c6) k ((ps.take k).map (.int .i64)) ∧ Hid (Moved mv lv2 lv ps2 ps)) (fun _ ix _ => n2 - (intOf ix).toNat)
      case atStart => exact ⟨0, false, lv, ps, Nat.zero_le _, rfl, rfl, hp6, ho6, ok, hbl6, hown6w, .inl ⟨rfl, rfl, rfl⟩⟩
      case round =>
        clear hp6 ho6 hbl6 hown6w hs6
        obtain ⟨j2, mv, lv2, ps2, hj2, rfl, rfl, hp6, ho6, ok2, hbl6, hown6, hmv⟩ := hrel
        by_cases hlt : j2 < n2
        · obtain ⟨ab, ao, s, a, rfl, hb, hz, hc0, hc1⟩ := ask_at (H2.out.below hbl6) HL2.out hlt
          clear hz
          have hms := moved_step (k := k) (seat := s) (ask := a) hmv.out ok2.l0 (by have := payIdx_lt h1 s; have := ho6.len; omega)
          have HMS := Lib.hid hms; clear hms hmv
          obtain ⟨pv, hpv⟩ : ∃ pv, payOf lv2 a = pv := ⟨_, rfl⟩
          rw [hpv] at HMS
          go_wp2_with fail
          go_still_tail 11, (by kernel_rfl)
          change wpList _ _ _ _ _ wr.drew
          go_wp2_with fail
          refine (pay_any _ _ _ _ _ ((ho6.drewN 1)) ok2 s a).mono ?_
          rintro e w7 ⟨rfl, ho7, hg7⟩
          have ok7 := pay_ok ok2 s a
          rw [hpv] at ho7 ok7 ⊢
          have hbl7 : Below w.heap.size w w7 := below_only hbl6.drew hg7 hbl6.size hg2w
          have hp7 : PotAt w7 g lv k ps := (hp6.drewN 1).grown hg7 (by simpa using hgne)
          have hown7 := own_only (World.ownsRow.drew hown6) hg7 (own_bk_ne hown6 ho6.bk (by decide))
          clear hpv hp6 ho6 ok2 hbl6 hown6 hc0 hc1
          by_cases hpp : 0 < pv
          · have hpd : decide (0 < pv) = true := by simpa using hpp
            rw [hpd] at HMS
            go_wp2_with fail
            go_roundw
            case rel => exact ⟨j2 + 1, _, _, _, by omega, by go_num, rfl, hp7, ho7, ok7, hbl7, hown7, HMS⟩
            case measure => simp [intOf]; omega
          · have hpd : decide (0 < pv) = false := by simpa using hpp
            rw [hpd] at HMS
            go_wp2_with fail
            go_roundw
            case rel => exact ⟨j2 + 1, _, _, _, by omega, by go_num, rfl, hp7, ho7, ok7, hbl7, hown7, HMS⟩
            case measure => simp [intOf]; omega
        · have hsm := moved_same (s := k) hmv.out
          have HSM2 := Lib.hid hsm; clear hsm
          go_wp2_with fail
          clear hlt hj2
          refine (pays_any _ _ _ _ _ hp6 ok).mono ?_
          rintro e w7 ⟨v7, rfl, hown7, hb7⟩
          obtain ⟨g7, c7, rfl, hg7, hg7l⟩ := hown7.form (by omega)
          have hp7 := hp6.later hb7
          have ho7 := ho6.later hb7
          have hs7 := (Sl.of_own hown6).below hb7
          have hbl7 := hbl6.trans (hb7.mono hbl6.size)
          have hwr : w.heap.size ≤ wr.heap.size := hbl6.size
          have hgr : g < wr.heap.size := hp6.lt
          have hg2r : g2 < wr.heap.size := ho6.lt
          have hszr : wr.heap.size ≤ w7.heap.size := hb7.size
          obtain ⟨B, hB⟩ : ∃ B, B = wr.heap.size := ⟨_, rfl⟩
          rw [← hB] at hown7 hg7 hs7 hwr hgr hg2r hszr
          clear hB hp6 ho6 hown6 hbl6 hb7
          go_wp2_with fail
          go_loopw [18] (fun ix wr => ∃ (j : Nat) (xs : List Value), j ≤ k ∧ ix = .int .i64 j ∧ wr.ownsRow B 3 1 (.slice (some ⟨g7, 0, none⟩) k c7) k xs ∧ Hid (xs.length = k) ∧ PotAt wr g lv k ps ∧ PotAt wr g2 lv2 k ps2 ∧ Below w.heap.size w wr ∧ Sl wr B 1 A6 k ((ps.take k).map (.int .i64)) ∧ B ≤ wr.heap.size) (fun ix _ => k - (intOf ix).toNat)
          case atStart => exact ⟨0, _, Nat.zero_le _, rfl, hown7, by simp [Hid]; have := hp7.len; omega, hp7, ho7, hbl7, hs7, hszr⟩
          case round =>
            clear hown7 hp7 ho7 hbl7 hs7 hszr
            obtain ⟨j3, xs, hj3, rfl, hown7, hxl, hp7, ho7, hbl7, hs7, hszr⟩ := hrel
            by_cases hlt : j3 < k
            · obtain ⟨x0, hx0⟩ : ∃ x0, xs[j3]? = some x0 := ⟨xs[j3]'(by rw [hxl.out]; exact hlt), List.getElem?_eq_getElem _⟩
              have hst : wr.cell? ⟨g7, j3, none⟩ = some x0 := by rw [hown7.cellAt j3 (by omega), hx0]
              have hfr := hown7.frozenAt j3
              clear hx0
              have hgn : g ≠ g7 := by omega
              have hgn2 : g2 ≠ g7 := by omega
              go_wp2_with fail
              go_roundw
              case rel =>
                exact ⟨j3 + 1, _, by omega, by go_num, (hown7.stored j3 _).1, by have := hxl.out; simpa [Hid] using this, ⟨hp7.bk.far hgn _, hp7.len⟩, ⟨ho7.bk.far hgn2 _, ho7.len⟩, hbl7.setCell (by show _ ≤ g7; omega) _, hs7.setCell hg7 _, by simpa using hszr⟩
              case measure => simp [intOf]; omega
            · have hll : (lv == lv) = true := by simp
              go_wp2_with fail
              refine (pays_any _ _ _ _ _ hp7 ok).mono ?_
              rintro e w8 ⟨v8, rfl, hown8, hb8⟩
              obtain ⟨A8, c8, rfl⟩ := own_form hown8
              have hp8 := hp7.later hb8
              have ho8 := ho7.later hb8
              have hbl8 := hbl7.trans (hb8.mono hbl7.size)
              have hs8 := (hs7.more hszr).later hb8
              clear hp7 ho7 hbl7 hs7 hown7
              go_wp2_with fail
              refine (alike_any _ _ _ _ _ _ _ _ _ (Sl.of_own hown8) hs8).mono ?_
              rintro e w9' ⟨rfl, q9, rfl⟩
              rw [eqL_self]
              have hp9 := hp8.drewN q9
              have ho9 := ho8.drewN q9
              have hbl9 : Below w.heap.size w (w8.drewN q9) := hbl8.trans (below_draws _ _ _)
              generalize w8.drewN q9 = w9 at hp9 ho9 hbl9 ⊢
              go_wp2_with (go_at_call 23; refine (left_any _ _ _ _ _ hp9).mono ?_; rintro e w' ⟨rfl, rfl⟩)
              refine (same_any _ _ _ _ _ _ _ _ _ ho9 hp9).mono ?_
              rintro e w10' ⟨rfl, q10, rfl⟩
              rw [HSM2.out]
              have hbl10 : Below w.heap.size w (w9.drewN q10) := hbl9.trans (below_draws _ _ _)
              go_wp2_with (go_at_call 15; refine (told_any _).mono ?_; rintro e w' ⟨rfl, hbt⟩)
              go_ret
              exact ⟨rfl, hbl10.trans (hbt.mono hbl10.size)⟩
end Go.Proofs.Ytfapechlnllfaaa
