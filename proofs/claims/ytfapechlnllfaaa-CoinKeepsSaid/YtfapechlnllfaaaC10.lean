/- The law CoinApart; the law CoinPots: a pot against the document's. -/
import Derived.Test.YtfapechlnllfaaaC9
namespace Go.Proofs.Ytfapechlnllfaaa
open Go.RowKit

set_option maxHeartbeats 400000 in
theorem law_CoinApart (amount seats : Int) (A1 A2 : Option Addr) (n1 n2 c1 c2 : Nat) (l1 l2 : List (Int × Int)) (w : World) (h1' : Sl w w.heap.size 2 A1 n1 (l1.flatMap askV)) (hl1 : l1.length = n1)
    (h2' : Sl w w.heap.size 2 A2 n2 (l2.flatMap askV)) (hl2 : l2.length = n2) :
    Calls Try.prog 6 #[.int .i64 amount, .int .i64 seats, .agg #[.slice A1 n1 c1, .slice A2 n2 c2]] w fun e w' => e = .returned (.bool true) ∧ Below w.heap.size w w' := by
  by_cases h20 : (20 : Int) < n1 ∨ (20 : Int) < n2
  · rcases Int.lt_or_le 20 (n1 : Int) with ha | ha
    · go_enter Try.func6, Try.ntmps6
      go_wp2_with fail
      go_quiet (fail)
      have hb1 := below_then (below_new w (.cells #[.slice A1 n1 c1, .slice A2 n2 c2] 51)) (below_draws (w.alloc (.cells #[.slice A1 n1 c1, .slice A2 n2 c2] 51)) _ nq)
      go_wp2_with (go_at_call 15; refine (told_any _).mono ?_; rintro e w' ⟨rfl, hbt⟩)
      go_ret
      exact ⟨rfl, below_then hb1 hbt⟩
    · have hb : (20 : Int) < n2 := by omega
      have hd1 : decide (20 < n1) = false := by simp; omega
      have hd3 : decide ((20 : Int) < n1) = false := by simp; omega
      clear h20
      go_enter Try.func6, Try.ntmps6
      go_wp2_with fail
      go_quiet (fail)
      have hb1 := below_then (below_new w (.cells #[.slice A1 n1 c1, .slice A2 n2 c2] 51)) (below_draws (w.alloc (.cells #[.slice A1 n1 c1, .slice A2 n2 c2] 51)) _ nq)
      go_wp2_with (go_at_call 15; refine (told_any _).mono ?_; rintro e w' ⟨rfl, hbt⟩)
      go_ret
      exact ⟨rfl, below_then hb1 hbt⟩
  by_cases hE : newE amount seats = 0
  · obtain ⟨hr, h1, h8⟩ := newE_ok hE
    obtain ⟨k, rfl⟩ := Int.eq_ofNat_of_zero_le (show 0 ≤ seats by omega)
    exact apart_ok amount k A1 A2 n1 n2 c1 c2 l1 l2 w h1' hl1 h2' hl2 (by omega) (by omega) hr (by omega) (by omega)
  · have hE' : (newE amount seats != 0) = true := by simpa using hE
    have hd1 : decide (20 < n1) = false := by simp; omega
    have hd2 : decide (20 < n2) = false := by simp; omega
    have hd3 : decide ((20 : Int) < n1) = false := by simp; omega
    have hd4 : decide ((20 : Int) < n2) = false := by simp; omega
    clear h20
    go_enter Try.func6, Try.ntmps6
    go_wp2_with fail
    go_quiet (fail)
    have hb1 := below_then (below_new w (.cells #[.slice A1 n1 c1, .slice A2 n2 c2] 51)) (below_draws (w.alloc (.cells #[.slice A1 n1 c1, .slice A2 n2 c2] 51)) _ nq)
    go_wp2_with (first
      | (go_at_call 19; refine (new_bad _ _ _ hE).mono ?_; rintro e w' ⟨rfl, rfl⟩)
      | (go_at_call 15; refine (told_any _).mono ?_; rintro e w' ⟨rfl, hbt⟩))
    go_ret
    exact ⟨rfl, below_then hb1 hbt⟩

set_option maxHeartbeats 2000000 in
theorem pots_ok (amount : Int) (k : Nat) (A : Option Addr) (n c : Nat) (l : List (Int × Int)) (w : World) (h : Sl w w.heap.size 2 A n (l.flatMap askV)) (hl : l.length = n) (h40 : n ≤ 40)
    (hr : rightB amount = true) (h1 : 1 ≤ k) (h8 : k ≤ 8) :
    Calls Try.prog 5 #[.int .i64 amount, .int .i64 k, .slice A n c] w fun e w' => e = .returned (.bool true) ∧ Below w.heap.size w w' := by
  have HL := Lib.hid hl; clear hl
  have H := Lib.hid h; clear h
  go_enter Try.func5, Try.ntmps5
  go_wp2_with fail
  refine (new_ok amount k w hr (by omega) (by omega)).mono ?_
  rintro e w2 ⟨rfl, hp2, hb2⟩
  have ok2 : PotOk amount k [0, 0, 0, 0, 0, 0, 0, 0] := new_pot_ok hr (by omega) (by omega)
  have hg : w.heap.size ≤ w.heap.size := Nat.le_refl _
  obtain ⟨g, hg'⟩ : ∃ g, g = w.heap.size := ⟨_, rfl⟩
  rw [← hg'] at hp2 ⊢
  have hgw : w.heap.size ≤ g := by omega
  clear hg' hg
  go_wp2_with fail
  refine (rnew_ok amount k w2 hr h1 h8).mono ?_
  rintro e w3 ⟨v3, rfl, hown3, hb3⟩
  obtain ⟨A3, c3, rfl⟩ := own_form hown3
  have hp3 := hp2.later hb3
  have hbl3 := below_then hb2 hb3
  have hw2 : w.heap.size ≤ w2.heap.size := hb2.size
  have hown3 := own_base hown3 hw2
  clear hp2 hb2 hb3
  go_wp2_with fail
  have hbq : Bk (w3.alloc (.cells #[.int .i64 amount, .slice A3 k c3] 40)) w3.heap.size 40 [.int .i64 amount, .slice A3 k c3] := Bk.new _ _ _
  have hp4 := hp3.later (below_new w3 (.cells #[.int .i64 amount, .slice A3 k c3] 40))
  have hbl4 := hbl3.trans ((below_new w3 (.cells #[.int .i64 amount, .slice A3 k c3] 40)).mono hbl3.size)
  have hown4 := own_keep hown3 (below_new w3 (.cells #[.int .i64 amount, .slice A3 k c3] 40))
  have hqw : w.heap.size ≤ w3.heap.size := hbl3.size
  generalize w3.alloc (.cells #[.int .i64 amount, .slice A3 k c3] 40) = w4 at *
  obtain ⟨q, hq⟩ : ∃ q, q = w3.heap.size := ⟨_, rfl⟩
  rw [← hq] at hbq hqw ⊢
  have h0t : (List.replicate k (0 : Int)) = ([0, 0, 0, 0, 0, 0, 0, 0] : List Int).take k := by
    have : k = 1 ∨ k = 2 ∨ k = 3 ∨ k = 4 ∨ k = 5 ∨ k = 6 ∨ k = 7 ∨ k = 8 := by omega
    rcases this with rfl | rfl | rfl | rfl | rfl | rfl | rfl | rfl <;> rfl
  rw [h0t] at hown4
  clear hp3 hbl3 hown3 hq h0t
  go_loopw [11] (fun ix wr => ∃ (j : Nat) (lv : Int) (ps : List Int) (A1 : Option Addr) (c1 : Nat), j ≤ n ∧ ix = .int .i64 j ∧ PotAt wr g lv k ps ∧ PotOk lv k ps ∧ Below w.heap.size w wr ∧
      Bk wr q 40 [.int .i64 lv, .slice A1 k c1] ∧ wr.ownsRow w.heap.size 3 1 (.slice A1 k c1) k ((ps.take k).map (.int .i64))) (fun ix _ => n - (intOf ix).toNat)
  case atStart => exact ⟨0, amount, _, A3, c3, Nat.zero_le _, rfl, hp4, ok2, hbl4, hbq, hown4⟩
  case round =>
    clear hp4 ok2 hbl4 hbq hown4
    obtain ⟨j, lv, ps, A1, c1, hj, rfl, hp, ok, hbl, hbq, hown⟩ := hrel
    have hps : k ≤ ps.length := by have := hp.len; omega
    have hlv0 := ok.l0
    have hlv1 := ok.l1
    have hpst : ∀ x ∈ ps.take k, 0 ≤ x ∧ x + lv ≤ 1125899906842624 := fun x hx => ok.ps x (List.mem_of_mem_take hx)
    by_cases hlt : j < n
    · obtain ⟨ab, ao, s, a, rfl, hb, hz, hc0, hc1⟩ := ask_at (H.out.below hbl) HL.out hlt
      clear hz
      have hsl := Sl.of_own hown
      have q0 := hbq.cell 0
      have q1 := hbq.cell 1
      simp at q0 q1
      have hab : ab < wr.heap.size := by have := hbl.size; omega
      have hqlt := hbq.lt
      have hbsz := hbl.size
      have hgq := hp.bk.ne_ hbq (by decide)
      have HT := Lib.hid (take_paid k h1 ps hps s (payOf lv a))
      have HPS := Lib.hid hpst; clear hpst
      have hlk : ∀ W : World, wr.heap.size ≤ W.heap.size → Sl W wr.heap.size 1 A1 k ((ps.take k).map (.int .i64)) → Sl W W.heap.size 1 A1 k ((ps.take k).map (.int .i64)) := fun W hW h => h.more hW
      go_upto_region 10 with fail
      go_cut [12, 13] (fun p2 pv wx => ∃ q2 A2 c2, p2 = .pointer (some ⟨q2, 0, none⟩) ∧ pv = .int .i64 (payOf lv a) ∧ Bk wx q2 40 [.int .i64 (lv - payOf lv a), .slice A2 k c2] ∧ wx.ownsRow w.heap.size 3 1 (.slice A2 k c2) k ((paid k (ps.take k) s (payOf lv a)).map (.int .i64)) ∧
          PotAt wx g lv k ps ∧ Bk wx q 40 [.int .i64 lv, .slice A1 k c1] ∧ Below w.heap.size w wx ∧ wx.cell? ⟨ab, ao + j * 2, none⟩ = some (.int .i64 s) ∧ wx.cell? ⟨ab, ao + j * 2 + 1, none⟩ = some (.int .i64 a) ∧ q2 ≠ q)
      case first =>
        go_region_held3 (fun w' => w'.cell? ⟨q, 0, none⟩ = some (.int .i64 lv) ∧ w'.cell? ⟨q, 1, none⟩ = some (.slice A1 k c1) ∧ w'.cell? ⟨ab, ao + j * 2, none⟩ = some (.int .i64 s) ∧ w'.cell? ⟨ab, ao + j * 2 + 1, none⟩ = some (.int .i64 a))
          (first
            | go_keep
            | (refine ⟨?_, ?_, ?_, ?_⟩ <;> (rw [World.cell?_setCell_other _ _ _ _ (by simp <;> omega), World.cell?_setCell_other _ _ _ _ (by simp <;> omega)]; assumption)))
          (first
            | (go_at_call 21; refine (rpay_any wr.drew lv A1 k c1 (ps.take k) (hsl.drew) h1 h8 ⟨hlv0, hlv1⟩ HPS.out s a).mono ?_; rintro e w5 ⟨v5, rfl, hown5, hb5⟩; obtain ⟨A5, c5, rfl⟩ := own_form hown5; have hbl5 : Below w.heap.size w w5 := (by refine Below.trans ?_ (hb5.mono (by simp <;> omega)); repeat (first | exact hbl | apply Below.drew | refine Below.alloc ?_ (by first | omega | (simp <;> omega)) _)); have hsz5 : wr.heap.size ≤ w5.heap.size := (by have := hb5.size; simp at this; omega); have hp5 : PotAt w5 g lv k ps := ⟨Bk.later (by repeat (first | exact hp.bk | apply Bk.drew | apply Bk.alloc)) hb5, hp.len⟩; have hbq5 : Bk w5 q 40 [.int .i64 lv, .slice A1 k c1] := Bk.later (by repeat (first | exact hbq | apply Bk.drew | apply Bk.alloc)) hb5; have a0 : w5.cell? ⟨ab, ao + j * 2, none⟩ = some (.int .i64 s) := (by rw [hb5.cell (by simp <;> omega)]; go_keep); have a1 : w5.cell? ⟨ab, ao + j * 2 + 1, none⟩ = some (.int .i64 a) := (by rw [hb5.cell (by simp <;> omega)]; go_keep); have q50 := hbq5.cell 0; have q51 := hbq5.cell 1; simp at q50 q51)
            | (go_at_call 21; refine (rpay_any (wr.alloc (.cells #[.int .i64 0, .slice none 0 0] 40)).drew lv A1 k c1 (ps.take k) ((hlk _ (by simp) (hsl.alloc (Nat.le_refl _) _)).drew) h1 h8 ⟨hlv0, hlv1⟩ HPS.out s a).mono ?_; rintro e w5 ⟨v5, rfl, hown5, hb5⟩; obtain ⟨A5, c5, rfl⟩ := own_form hown5; have hbl5 : Below w.heap.size w w5 := (by refine Below.trans ?_ (hb5.mono (by simp <;> omega)); repeat (first | exact hbl | apply Below.drew | refine Below.alloc ?_ (by first | omega | (simp <;> omega)) _)); have hsz5 : wr.heap.size + 1 ≤ w5.heap.size := (by have := hb5.size; simp at this; omega); have hp5 : PotAt w5 g lv k ps := ⟨Bk.later (by repeat (first | exact hp.bk | apply Bk.drew | apply Bk.alloc)) hb5, hp.len⟩; have hbq5 : Bk w5 q 40 [.int .i64 lv, .slice A1 k c1] := Bk.later (by repeat (first | exact hbq | apply Bk.drew | apply Bk.alloc)) hb5; have a0 : w5.cell? ⟨ab, ao + j * 2, none⟩ = some (.int .i64 s) := (by rw [hb5.cell (by simp <;> omega)]; go_keep); have a1 : w5.cell? ⟨ab, ao + j * 2 + 1, none⟩ = some (.int .i64 a) := (by rw [hb5.cell (by simp <;> omega)]; go_keep); have q50 := hbq5.cell 0; have q51 := hbq5.cell 1; simp at q50 q51; have hb2 : Bk w5 wr.heap.size 40 [.int .i64 0, .slice none 0 0] := Bk.later (by repeat (first | exact Bk.at_ _ _ _ rfl rfl | apply Bk.drew)) hb5; have r0 := hb2.cell 0; have r1 := hb2.cell 1; have f0 := hb2.frozen 0; have f1 := hb2.frozen 1; simp at r0 r1))
        all_goals
          go_wp2_with fail
          go_meet
          go_light
        · have hown6 := own_base (base' := w.heap.size) hown5 (by simpa using hbl.size)
          refine ⟨w5.heap.size, A5, c5, rfl, rfl, Bk.at_ _ _ _ rfl rfl, hown6.alloc _, hp5.later (below_new _ _), hbq5.alloc _, hbl5.alloc hbl5.size _, ((below_new w5 _).cell (by show ab < _; omega)).trans a0, ((below_new w5 _).cell (by show ab < _; omega)).trans a1, by omega⟩
        · have hown6 := own_base (base' := w.heap.size) hown5 (by have := hbl.size; simp; omega)
          have hne2 : ¬ wr.heap.size = q := by omega
          have hgne : g ≠ wr.heap.size := by have := hp.lt; omega
          have hqne : q ≠ wr.heap.size := by omega
          have habn : ¬ wr.heap.size = ab := by omega
          refine ⟨wr.heap.size, A5, c5, rfl, rfl, (hb2.set_ 0 _).set_ 1 _, ownsRow_setCell_other (ownsRow_setCell_other hown6 (own_bk_ne hown6 hb2 (by decide)) _) (own_bk_ne hown6 hb2 (by decide)) _,
            ⟨(hp5.bk.far hgne _).far hgne _, hp5.len⟩, (hbq5.far hqne _).far hqne _, (hbl5.setCell hbl.size _).setCell hbl.size _, ?_, ?_, hne2⟩
          · rw [World.cell?_setCell_other _ _ _ _ (by simp [habn]), World.cell?_setCell_other _ _ _ _ (by simp [habn])]; exact a0
          · rw [World.cell?_setCell_other _ _ _ _ (by simp [habn]), World.cell?_setCell_other _ _ _ _ (by simp [habn])]; exact a1
      clear hp hbq hbl hown q0 q1 hc0 hc1 hsl hlk hqlt hbsz
      obtain ⟨q2, A2, c2, rfl, rfl, hb2, hown2, hp, hbq, hbl, hc0, hc1, hqq⟩ := hcut
      rw [← HT.out] at hown2
      have r0 := hb2.cell 0
      have r1 := hb2.cell 1
      have y0 := hbq.cell 0
      have y1 := hbq.cell 1
      have f0 := hbq.frozen 0
      have f1 := hbq.frozen 1
      simp at r0 r1 y0 y1
      have hok3 := pay_ok ok s a
      have HOK := Lib.hid hok3; clear hok3
      obtain ⟨hpb0, hpb1⟩ := pay_bounds (ask := a) hlv0
      obtain ⟨pv, hpv⟩ : ∃ pv, payOf lv a = pv := ⟨_, rfl⟩
      rw [hpv] at hb2 hown2 r0 hpb0 hpb1 HOK ⊢
      have HPV := Lib.hid hpv; clear hpv
      go_wp2_with fail
      have hbq3 := (hbq.set_ 0 (.int .i64 (lv - pv))).set_ 1 (.slice A2 k c2)
      have hgneq : g ≠ q := hgq
      have habq : ¬ q = ab := by omega
      have hp3 : PotAt ((wc.setCell ⟨q, 0, none⟩ (.int .i64 (lv - pv))).setCell ⟨q, 1, none⟩ (.slice A2 k c2)) g lv k ps := ⟨(hp.bk.far hgneq _).far hgneq _, hp.len⟩
      have hbl3 := (hbl.setCell (p := ⟨q, 0, none⟩) hqw (.int .i64 (lv - pv))).setCell (p := ⟨q, 1, none⟩) hqw (.slice A2 k c2)
      have hown3 := ownsRow_setCell_other (ownsRow_setCell_other hown2 (a := ⟨q, 0, none⟩) (own_bk_ne hown2 hbq (by decide)) (.int .i64 (lv - pv))) (a := ⟨q, 1, none⟩) (own_bk_ne hown2 hbq (by decide)) (.slice A2 k c2)
      have a0 : ((wc.setCell ⟨q, 0, none⟩ (.int .i64 (lv - pv))).setCell ⟨q, 1, none⟩ (.slice A2 k c2)).cell? ⟨ab, ao + j * 2, none⟩ = some (.int .i64 s) := by
        rw [World.cell?_setCell_other _ _ _ _ (by simp [habq]), World.cell?_setCell_other _ _ _ _ (by simp [habq])]; exact hc0
      have a1 : ((wc.setCell ⟨q, 0, none⟩ (.int .i64 (lv - pv))).setCell ⟨q, 1, none⟩ (.slice A2 k c2)).cell? ⟨ab, ao + j * 2 + 1, none⟩ = some (.int .i64 a) := by
        rw [World.cell?_setCell_other _ _ _ _ (by simp [habq]), World.cell?_setCell_other _ _ _ _ (by simp [habq])]; exact hc1
      simp only [List.set_cons_zero, List.set_cons_succ] at hbq3
      generalize (wc.setCell ⟨q, 0, none⟩ (.int .i64 (lv - pv))).setCell ⟨q, 1, none⟩ (.slice A2 k c2) = wd at *
      clear hp hbq hbl hown2 hb2 r0 r1 y0 y1 f0 f1 hc0 hc1
      have q0 := hbq3.cell 0
      have q1 := hbq3.cell 1
      simp at q0 q1
      have hsz := hbl3.size
      have hqd := hbq3.lt
      have hgd := hp3.lt
      obtain ⟨ps3, hps3⟩ : ∃ ps3, paid k ps s pv = ps3 := ⟨_, rfl⟩
      rw [hps3] at HOK
      have HP3 := Lib.hid hps3; clear hps3
      have hown4 : wd.ownsRow w.heap.size 3 1 (.slice A2 k c2) k ((ps3.take k).map (.int .i64)) := by
        rw [← HP3.out]; exact hown3
      clear hown3 HT
      go_region_held3 (fun w' => w'.cell? ⟨q, 0, none⟩ = some (.int .i64 (lv - pv)) ∧ w'.cell? ⟨q, 1, none⟩ = some (.slice A2 k c2) ∧ w'.cell? ⟨ab, ao + j * 2, none⟩ = some (.int .i64 s) ∧ w'.cell? ⟨ab, ao + j * 2 + 1, none⟩ = some (.int .i64 a))
        (go_keep)
        (first
          | (go_at_call 22; refine (pay_any _ _ _ _ _ (hp3.drewN 1) ok s a).mono ?_; rintro e w6 ⟨rfl, hp6, hg6⟩; rw [HPV.out] at hp6 ⊢; rw [HP3.out] at hp6; have hbl6 : Below w.heap.size w w6 := below_only hbl3.drew hg6 hbl3.size hgw; have hbq6 : Bk w6 q 40 [.int .i64 (lv - pv), .slice A2 k c2] := Bk.grown hbq3.drew hg6 (by simp; omega); have hown6 := own_only (World.ownsRow.drew hown4) hg6 (own_bk_ne hown4 hp3.bk (by decide)); have q60 := hbq6.cell 0; have q61 := hbq6.cell 1; simp at q60 q61; have a60 : w6.cell? ⟨ab, ao + j * 2, none⟩ = some (.int .i64 s) := (by rw [hg6.cell_far _ (by simp <;> omega) (by simp <;> omega)]; exact a0); have a61 : w6.cell? ⟨ab, ao + j * 2 + 1, none⟩ = some (.int .i64 a) := (by rw [hg6.cell_far _ (by simp <;> omega) (by simp <;> omega)]; exact a1); clear hg6)
          | (go_at_call 23; refine (left_any _ _ _ _ _ hp6).mono ?_; rintro e w' ⟨rfl, rfl⟩)
          | (go_at_call 24; refine (pays_any _ _ _ _ _ hp6 HOK.out).mono ?_; rintro e w7 ⟨v7, rfl, hown7, hb7⟩; obtain ⟨A7, c7, rfl⟩ := own_form hown7; have hp7 := hp6.later hb7; have hbq7 := hbq6.later hb7; have hown67 := own_keep hown6 hb7; have hbl7 := hbl6.trans (hb7.mono hbl6.size); have q70 := hbq7.cell 0; have q71 := hbq7.cell 1; simp at q70 q71; have a70 : w7.cell? ⟨ab, ao + j * 2, none⟩ = some (.int .i64 s) := (by rw [hb7.cell (by have := hbl6.size; simp <;> omega)]; exact a60); have a71 : w7.cell? ⟨ab, ao + j * 2 + 1, none⟩ = some (.int .i64 a) := (by rw [hb7.cell (by have := hbl6.size; simp <;> omega)]; exact a61))
          | (go_at_call 18; refine (alike_any _ _ _ _ _ _ _ _ _ (Sl.of_own hown7) (Sl.of_own hown67)).mono ?_; rintro e w8 ⟨rfl, q8, rfl⟩; rw [eqL_self]))
      go_wp2_with fail
      go_roundw
      case rel => exact ⟨j + 1, lv - pv, ps3, A2, c2, by omega, by go_num, hp7.drewN q8, HOK.out, hbl7.trans (below_draws _ _ _), hbq7.drewN q8, hown67, ⟩
      case measure => simp [intOf]; omega
    · go_wp2_with (go_at_call 15; refine (told_any _).mono ?_; rintro e w' ⟨rfl, hbt⟩)
      go_ret
      exact ⟨rfl, hbl.trans (hbt.mono hbl.size)⟩

set_option maxHeartbeats 400000 in
theorem law_CoinPots (amount seats : Int) (A : Option Addr) (n c : Nat) (l : List (Int × Int)) (w : World) (h : Sl w w.heap.size 2 A n (l.flatMap askV)) (hl : l.length = n) :
    Calls Try.prog 5 #[.int .i64 amount, .int .i64 seats, .slice A n c] w fun e w' => e = .returned (.bool true) ∧ Below w.heap.size w w' := by
  by_cases h40 : (40 : Int) < n
  · go_enter Try.func5, Try.ntmps5
    go_wp2_with (go_at_call 15; refine (told_any _).mono ?_; rintro e w' ⟨rfl, hbt⟩)
    go_ret
    exact ⟨rfl, hbt⟩
  by_cases hE : newE amount seats = 0
  · obtain ⟨hr, h1, h8⟩ := newE_ok hE
    obtain ⟨k, rfl⟩ := Int.eq_ofNat_of_zero_le (show 0 ≤ seats by omega)
    exact pots_ok amount k A n c l w h hl (by omega) hr (by omega) (by omega)
  · have hE' : (newE amount seats == 0) = false := by simpa using hE
    go_enter Try.func5, Try.ntmps5
    go_wp2_with (first
      | (go_at_call 19; refine (new_bad _ _ _ hE).mono ?_; rintro e w' ⟨rfl, rfl⟩)
      | (go_at_call 20; refine (rnew_bad _ _ _ hE).mono ?_; rintro e w1 ⟨rfl, hb1⟩))
    go_loop [11] (fun i => i = .int .i64 0) (fun _ => 0)
    case atStart => rfl
    case round =>
      subst hrel
      have hb2 := below_then hb1 (below_new w1 (.cells #[.int .i64 0, .slice none 0 0] 40))
      by_cases hn0 : 0 < n
      · have hn1 : (0 : Int) < n := by omega
        go_wp2_with (go_at_call 15; refine (told_any _).mono ?_; rintro e w' ⟨rfl, hbt⟩)
        go_ret
        exact ⟨rfl, below_then hb2 hbt⟩
      · have hn1 : decide ((0 : Int) < n) = false := by simp; omega
        have hn2 : decide (0 < n) = false := by simp; omega
        go_wp2_with (go_at_call 15; refine (told_any _).mono ?_; rintro e w' ⟨rfl, hbt⟩)
        go_ret
        exact ⟨rfl, below_then hb2 hbt⟩

theorem law_CoinPots' (amount seats : Int) (A : Option Addr) (n c : Nat) (l : List (Int × Int)) (w : World) (_ : (Lit.int .i64 amount).wf = true) (_ : (Lit.int .i64 seats).wf = true) (h : l.length = n ∧ Sl w w.heap.size 2 A n (l.flatMap askV)) :
    Calls Try.prog 5 #[.int .i64 amount, .int .i64 seats, .slice A n c] w fun e w' => e = .returned (.bool true) ∧ Below w.heap.size w w' := law_CoinPots amount seats A n c l w h.2 h.1
theorem law_CoinKeeps' (amount seats : Int) (A : Option Addr) (n c : Nat) (l : List (Int × Int)) (last : Int) (w : World) (_ : (Lit.int .i64 amount).wf = true) (_ : (Lit.int .i64 seats).wf = true) (h : l.length = n ∧ Sl w w.heap.size 2 A n (l.flatMap askV)) :
    Calls Try.prog 9 #[.int .i64 amount, .int .i64 seats, .agg #[.slice A n c, .int .i64 last]] w fun e w' => e = .returned (.bool true) ∧ Below w.heap.size w w' := law_CoinKeeps amount seats A n c l last w h.2 h.1
theorem law_CoinApart' (amount seats : Int) (A1 A2 : Option Addr) (n1 n2 c1 c2 : Nat) (l1 l2 : List (Int × Int)) (w : World) (_ : (Lit.int .i64 amount).wf = true) (_ : (Lit.int .i64 seats).wf = true)
    (h : (l1.length = n1 ∧ Sl w w.heap.size 2 A1 n1 (l1.flatMap askV)) ∧ (l2.length = n2 ∧ Sl w w.heap.size 2 A2 n2 (l2.flatMap askV))) :
    Calls Try.prog 6 #[.int .i64 amount, .int .i64 seats, .agg #[.slice A1 n1 c1, .slice A2 n2 c2]] w fun e w' => e = .returned (.bool true) ∧ Below w.heap.size w w' := law_CoinApart amount seats A1 A2 n1 n2 c1 c2 l1 l2 w h.1.2 h.1.1 h.2.2 h.2.1
end Go.Proofs.Ytfapechlnllfaaa
