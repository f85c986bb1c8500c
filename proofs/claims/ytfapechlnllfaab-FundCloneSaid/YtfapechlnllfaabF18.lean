/- baizelaw31.same: a fund and the document's tell the same. -/
import Derived.Test.YtfapechlnllfaabF17
namespace Go.Proofs.Ytfapechlnllfaab
open Go.RowKit

theorem box3 {w1 w2 : World} {g : Nat} {t : TypeId} {v0 v1 v2 : Value} (hb : Bk w1 g t [v0, v1, v2]) (h : Below w1.heap.size w1 w2) :
    w2.cell? ⟨g, 0, none⟩ = some v0 ∧ w2.cell? ⟨g, 1, none⟩ = some v1 ∧ w2.cell? ⟨g, 2, none⟩ = some v2 :=
  ⟨(hb.later h).cell 0, (hb.later h).cell 1, (hb.later h).cell 2⟩

set_option maxRecDepth 20000 in
set_option maxHeartbeats 1600000 in
theorem same31_any (w : World) (g : Nat) (zs : List Int) (d : List Bool) (b : Int) (h : FundAt w g zs d b) (A : Option Addr) (n c : Nat) (A2 : Option Addr) (c2 : Nat) (hr : RF w A n zs A2 d b) (now : Int) :
    Calls Try.prog 24 #[.pointer (some ⟨g, 0, none⟩), .agg #[.slice A n c, .slice A2 n c2, .int .i64 b], .int .i64 now] w fun e w' => e = .returned (.bool true) ∧ Below w.heap.size w w' := by
  have hn := hr.s1.le
  have n8 : n ≤ 8 := by have := hr.ok.n8; have := hr.zl; omega
  have hzl := Lib.hid hr.zl
  obtain ⟨w1, hw1⟩ : ∃ w1, w.alloc (.cells #[.slice A n c, .slice A2 n c2, .int .i64 b] 47) = w1 := ⟨_, rfl⟩
  have hb1 : Below w.heap.size w w1 := hw1 ▸ below_new _ _
  have hk1 : Bk w1 w.heap.size 47 [.slice A n c, .slice A2 n c2, .int .i64 b] := hw1 ▸ Bk.new w _ #[.slice A n c, .slice A2 n c2, .int .i64 b]
  have hlt := hk1.lt
  obtain ⟨k0, k1, k2, kf⟩ := three_cells hk1
  have HR := Lib.hid (hr.later hb1); have HF := Lib.hid (h.later hb1); have HK := Lib.hid hk1; have HW := Lib.hid hw1
  clear h hr hk1 hw1
  go_enter Try.func24, Try.ntmps24
  go_upto_region 1 with fail
  rw [HW.out]
  go_cut [33] (fun s wx => s = .bool false ∧ Below w1.heap.size w1 wx)
  case first =>
    go_region_held3 (fun w' => w'.cell? ⟨w.heap.size, 0, none⟩ = some (.slice A n c) ∧ w'.cell? ⟨w.heap.size, 1, none⟩ = some (.slice A2 n c2) ∧ w'.cell? ⟨w.heap.size, 2, none⟩ = some (.int .i64 b)) (first | go_keep | assumption)
      (first
        | (go_at_call 15; refine (phase_any _ _ _ _ _ (HF.out.drewN 1) now).mono ?_; rintro e w2 ⟨rfl, hb2⟩; have E2 : Hid (Below w1.heap.size w1 w2) := ((below_draws w1 _ 1).trans hb2); clear hb2; have hS2 := box3 HK.out E2.out)
        | (go_at_call 32; refine (rphase_any _ _ _ _ _ _ _ _ _ (HR.out.later E2.out) now).mono ?_; rintro e w3 ⟨rfl, hb3⟩; have E3 : Hid (Below w1.heap.size w1 w3) := (E2.out.trans (hb3.mono E2.out.size)); clear hb3; have hS3 := box3 HK.out E3.out)
        | (go_at_call 20; refine (held_any _ _ _ _ _ (HF.out.later E3.out)).mono ?_; rintro e w' ⟨rfl, rfl⟩)
        | (go_at_call 33; refine (rheld_any _ _ _ _ _ _ _ _ _ (HR.out.later E3.out)).mono ?_; rintro e w4 ⟨rfl, hb4⟩; have E4 : Hid (Below w1.heap.size w1 w4) := (E3.out.trans (hb4.mono E3.out.size)); clear hb4; have hS4 := box3 HK.out E4.out)
        | (go_at_call 16; refine (stakes_any _ _ _ _ _ (HF.out.later E4.out)).mono ?_; rintro e w5 ⟨v5, rfl, hown5, hb5⟩; rw [hzl.out] at hown5; obtain ⟨A5, c5, rfl⟩ := own_form hown5; have E5 : Hid (Below w1.heap.size w1 w5) := (E4.out.trans (hb5.mono E4.out.size)); have HS5 := Lib.hid (Sl.of_own hown5); clear hb5 hown5; have hS5 := box3 HK.out E5.out)
        | (go_at_call 17; refine (alike_any _ _ _ _ _ _ zs zs _ HS5.out (HR.out.s1.later E5.out)).mono ?_; rintro e w6 ⟨rfl, q6, rfl⟩; rw [eqL_self]; have E6 : Hid (Below w1.heap.size w1 (w5.drewN q6)) := (E5.out.trans (below_draws w5 _ q6)); have hS6 := box3 HK.out E6.out))
    all_goals
      go_wp2_with fail
      go_meet
      go_light
      exact ⟨rfl, E6.out⟩
  obtain ⟨rfl, hbl⟩ := hcut
  have HBL := Lib.hid hbl; clear hbl
  go_wp2_with fail
  go_loopw [7] (fun i wr => ∃ j : Int, -1 ≤ j ∧ j ≤ n + 1 ∧ i = .int .i64 j ∧ Below w1.heap.size w1 wr) (fun i _ => (n + 1 - intOf i).toNat)
  case atStart => exact ⟨-1, by omega, by omega, rfl, HBL.out⟩
  case round =>
    obtain ⟨j, hj0, hj1, rfl, hbl⟩ := hrel
    obtain ⟨e0, e1, e2⟩ := box3 HK.out hbl
    have HB := Lib.hid hbl; clear hbl HBL
    by_cases hlt' : j ≤ n
    · go_wp2_with fail
      go_region_held3 (fun w' => w'.cell? ⟨w.heap.size, 0, none⟩ = some (.slice A n c) ∧ w'.cell? ⟨w.heap.size, 1, none⟩ = some (.slice A2 n c2) ∧ w'.cell? ⟨w.heap.size, 2, none⟩ = some (.int .i64 b)) (first | go_keep | assumption)
        (first
          | (go_at_call 19; refine (given_any _ _ _ _ _ ((HF.out.later HB.out).drewN 1) j).mono ?_; rintro e w' ⟨rfl, rfl⟩)
          | (go_at_call 34; refine (rgiven_any _ _ _ _ _ _ _ _ _ ((HR.out.later HB.out).later (below_draws _ _ 1)) j).mono ?_; rintro e w3 ⟨rfl, hb3⟩; have E3 : Hid (Below w1.heap.size w1 w3) := ((HB.out.trans (below_draws _ _ 1)).trans (hb3.mono HB.out.size)); clear hb3; have hS3 := box3 HK.out E3.out))
      go_wp2_with fail
      go_roundw
      case rel => exact ⟨j + 1, by omega, by omega, rfl, E3.out⟩
      case measure => simp [intOf]; omega
    · go_wp2_with fail
      go_ret
      exact ⟨rfl, below_then hb1 HB.out⟩
end Go.Proofs.Ytfapechlnllfaab
