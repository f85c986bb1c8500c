/- Payments in a list; sums of what seats have. -/
import Derived.Test.YtfapechlnllfaaaC7
import Derived.Test.YtfapechlnllfaaaLib2
import Derived.StillTailTactics
namespace Go.Proofs.Ytfapechlnllfaaa
open Go.RowKit

/-- The cells of an Ask. -/
def askV (p : Int × Int) : List Value := [.int .i64 p.1, .int .i64 p.2]
theorem ask_at {w : World} {B n k : Nat} {A : Option Addr} {l : List (Int × Int)} (h : Sl w B 2 A n (l.flatMap askV)) (hl : l.length = n) (hk : k < n) :
    ∃ b o s a, A = some ⟨b, o, none⟩ ∧ b < B ∧ l[k]? = some (s, a) ∧ w.cell? ⟨b, o + k * 2, none⟩ = some (.int .i64 s) ∧ w.cell? ⟨b, o + k * 2 + 1, none⟩ = some (.int .i64 a) := by
  obtain ⟨b, o, ⟨s, a⟩, rfl, hb, hz, hc⟩ := Sl.cellO (f := askV) (m := 2) (fun _ => rfl) (by omega) h hk hl
  exact ⟨b, o, s, a, rfl, hb, hz, hc 0 _ rfl, hc 1 _ rfl⟩

def sumZ : List Int → Int
  | [] => 0
  | x :: l => x + sumZ l
theorem sumZ_nonneg : ∀ l : List Int, (∀ x ∈ l, 0 ≤ x) → 0 ≤ sumZ l
  | [], _ => by simp [sumZ]
  | x :: l, h => by have h1 := h x (by simp); have h2 := sumZ_nonneg l (fun y hy => h y (by simp [hy])); simp only [sumZ]; omega
theorem sumG_ok : ∀ (l : List Int) (s : Int), 0 ≤ s → (∀ x ∈ l, 0 ≤ x) → s + sumZ l ≤ 1125899906842624 → sumG s l = (s + sumZ l, 0)
  | [], s, _, _, _ => by simp [sumG, sumZ]
  | x :: l, s, hs, hx, hb => by
    have h1 := hx x (by simp)
    have h2 := sumZ_nonneg l (fun y hy => hx y (by simp [hy]))
    simp only [sumZ] at hb
    have ha : rightB s = true := right_t hs (by omega)
    have hc : rightB x = true := right_t h1 (by omega)
    have hd : rightB (s + x) = true := right_t (by omega) (by omega)
    simp only [sumG]
    have e1 : addE s x = 0 := by unfold addE; simp [ha, hc, hd]
    have e2 : addV s x = s + x := by unfold addV; simp [ha, hc, hd]
    rw [if_pos e1, e2, sumG_ok l (s + x) (by omega) (fun y hy => hx y (by simp [hy])) (by omega)]
    simp only [sumZ]; congr 1; omega
theorem sumZ_set : ∀ (l : List Int) (i : Nat) (d : Int), i < l.length → sumZ (l.set i (l.getD i 0 + d)) = sumZ l + d
  | x :: l, 0, d, _ => by simp [sumZ]; omega
  | x :: l, i + 1, d, h => by
    have := sumZ_set l i d (by simpa using h)
    simp only [List.set_cons_succ, sumZ, List.getD_cons_succ]; omega
theorem take_paid (k : Nat) (hk : 1 ≤ k) (ps : List Int) (hl : k ≤ ps.length) (seat p : Int) : (paid k ps seat p).take k = paid k (ps.take k) seat p := by
  have hi : payIdx k seat < k := payIdx_lt hk seat
  unfold paid
  rw [List.take_set]
  congr 2
  rw [List.getD_eq_getElem?_getD, List.getD_eq_getElem?_getD, List.getElem?_take, if_pos hi]
theorem sum_paid (k : Nat) (hk : 1 ≤ k) (ps : List Int) (hl : k ≤ ps.length) (seat p : Int) : sumZ ((paid k ps seat p).take k) = sumZ (ps.take k) + p := by
  rw [take_paid k hk ps hl]
  unfold paid
  exact sumZ_set _ _ _ (by have := payIdx_lt hk seat; simp; omega)
theorem paid_len (k : Nat) (ps : List Int) (seat p : Int) : (paid k ps seat p).length = ps.length := by simp [paid]

set_option maxHeartbeats 1000000 in
theorem keeps_ok (amount : Int) (k : Nat) (A : Option Addr) (n c : Nat) (l : List (Int × Int)) (last : Int) (w : World) (h : Sl w w.heap.size 2 A n (l.flatMap askV)) (hl : l.length = n) (h40 : n ≤ 40)
    (hr : rightB amount = true) (h1 : 1 ≤ k) (h8 : k ≤ 8) :
    Calls Try.prog 9 #[.int .i64 amount, .int .i64 k, .agg #[.slice A n c, .int .i64 last]] w fun e w' => e = .returned (.bool true) ∧ Below w.heap.size w w' := by
  have HL := Lib.hid hl; clear hl
  have H := Lib.hid h; clear h
  go_enter Try.func9, Try.ntmps9
  go_wp2_with fail
  go_quiet (fail)
  go_wp2_with fail
  have hb1 := below_then (below_new w (.cells #[.slice A n c, .int .i64 last] 60)) (below_draws (w.alloc (.cells #[.slice A n c, .int .i64 last] 60)) _ nq)
  generalize (w.alloc (.cells #[.slice A n c, .int .i64 last] 60)).drewN nq = w1 at *
  refine (new_ok amount k w1 hr (by omega) (by omega)).mono ?_
  rintro e w2 ⟨rfl, hp2, hb2⟩
  have ok2 : PotOk amount k [0, 0, 0, 0, 0, 0, 0, 0] := new_pot_ok hr (by omega) (by omega)
  have hbl2 := below_then hb1 hb2
  have hg : w.heap.size ≤ w1.heap.size := hb1.size
  obtain ⟨g, hg'⟩ : ∃ g, g = w1.heap.size := ⟨_, rfl⟩
  rw [← hg'] at hp2 hg ⊢
  clear hg' hb1 hb2
  go_wp2_with fail
  go_loopw [11] (fun ix wr => ∃ (j : Nat) (lv : Int) (ps : List Int), j ≤ n ∧ ix = .int .i64 j ∧ PotAt wr g lv k ps ∧ PotOk lv k ps ∧ Below w.heap.size w wr ∧ Hid (sumZ (ps.take k) + lv = amount)) (fun ix _ => n - (intOf ix).toNat)
  case atStart => exact ⟨0, amount, _, Nat.zero_le _, rfl, hp2, ok2, hbl2, by
    have : sumZ (([0, 0, 0, 0, 0, 0, 0, 0] : List Int).take k) = 0 := by
      have : k = 1 ∨ k = 2 ∨ k = 3 ∨ k = 4 ∨ k = 5 ∨ k = 6 ∨ k = 7 ∨ k = 8 := by omega
      rcases this with rfl | rfl | rfl | rfl | rfl | rfl | rfl | rfl <;> rfl
    show _ = _; omega⟩
  case round =>
    clear hp2 ok2 hbl2
    obtain ⟨j, lv, ps, hj, rfl, hp, ok, hbl, hsum⟩ := hrel
    have hps : k ≤ ps.length := by have := hp.len; omega
    have hlv0 := ok.l0
    have hlv1 := ok.l1
    by_cases hlt : j < n
    · obtain ⟨ab, ao, s, a, rfl, hb, hz, hc0, hc1⟩ := ask_at (H.out.below hbl) HL.out hlt
      clear hz
      go_wp2_with fail
      go_still_tail 11, (by kernel_rfl)
      change wpList _ _ _ _ _ wr.drew
      go_wp2_with fail
      refine (pay_any _ _ _ _ _ ((hp.drewN 1)) ok s a).mono ?_
      rintro e w3 ⟨rfl, hp3, hg3⟩
      have ok3 := pay_ok ok s a
      obtain ⟨hpb0, hpb1⟩ := pay_bounds (ask := a) hlv0
      have hsum3 : sumZ ((paid k ps s (payOf lv a)).take k) + (lv - payOf lv a) = amount := by
        rw [sum_paid k h1 ps hps]; have := hsum.out; omega
      have hbl3 : Below w.heap.size w w3 := below_only hbl.drew hg3 hbl.size hg
      have hps3 : k ≤ (paid k ps s (payOf lv a)).length := by rw [paid_len]; exact hps
      obtain ⟨pv, hpv⟩ : ∃ pv, payOf lv a = pv := ⟨_, rfl⟩
      rw [hpv] at hp3 ok3 hpb0 hpb1 hsum3 hps3 ⊢
      obtain ⟨ps3, hps3'⟩ : ∃ ps3, paid k ps s pv = ps3 := ⟨_, rfl⟩
      rw [hps3'] at hp3 ok3 hsum3 hps3
      obtain ⟨lv3, hlv3⟩ : ∃ lv3, lv - pv = lv3 := ⟨_, rfl⟩
      rw [hlv3] at hp3 ok3 hsum3
      clear hps3' hlv3 hpv hp ok hbl hsum hc0 hc1
      have hl30 := ok3.l0
      have hn3 : ∀ x ∈ ps3.take k, 0 ≤ x := fun x hx => (ok3.ps x (List.mem_of_mem_take hx)).1
      have hsn := sumZ_nonneg _ hn3
      obtain ⟨b0, b1⟩ := right_of hr
      have hsg := sumG_ok (ps3.take k) 0 (by omega) hn3 (by omega)
      rw [Int.zero_add] at hsg
      obtain ⟨sz, hsz⟩ : ∃ sz, sumZ (ps3.take k) = sz := ⟨_, rfl⟩
      rw [hsz] at hsum3 hsn hsg
      have HSZ := Lib.hid hsz; clear hsz
      have HSG := Lib.hid hsg; clear hsg hn3
      have HS3 := Lib.hid hsum3
      have hneg : decide (pv < 0) = false := by simp; omega
      have hlneg : decide (lv3 < 0) = false := by simp; omega
      have heq : (sz + lv3 != amount) = false := by simp; omega
      have hub : sz + lv3 ≤ 1125899906842624 := by omega
      clear hsum3
      go_wp2_with fail
      refine (pays_any _ _ _ _ _ hp3 ok3).mono ?_
      rintro e w4 ⟨v4, rfl, hown4, hb4⟩
      obtain ⟨A4, c4, rfl⟩ := own_form hown4
      have hp4 := hp3.later hb4
      have hbl4 := hbl3.trans (hb4.mono hbl3.size)
      go_wp2_with fail
      refine (sum_any _ _ _ _ _ (Sl.of_own hown4)).mono ?_
      rintro e w5 ⟨rfl, rfl⟩
      rw [HSG.out]
      go_wp2_with (go_at_call 23; refine (left_any _ _ _ _ _ hp4).mono ?_; rintro e w' ⟨rfl, rfl⟩)
      go_roundw
      case rel => exact ⟨j + 1, lv3, ps3, by omega, by go_num, hp4, ok3, hbl4, by show _ = _; rw [HSZ.out]; exact HS3.out⟩
      case measure => simp [intOf]; omega
    · obtain rfl : j = n := by omega
      have hsum3 := hsum.out
      have hl0 := ok.l0
      have hnn : ∀ x ∈ ps.take k, 0 ≤ x := fun x hx => (ok.ps x (List.mem_of_mem_take hx)).1
      have hpn : ∀ x ∈ (paid k ps last lv).take k, 0 ≤ x := by
        have ok2 := pay_ok ok last lv
        rw [payOf_self hl0] at ok2
        exact fun x hx => (ok2.ps x (List.mem_of_mem_take hx)).1
      have ok2 := pay_ok ok last lv
      rw [payOf_self hl0, Int.sub_self] at ok2
      have hs2 := sum_paid k h1 ps hps last lv
      obtain ⟨b0, b1⟩ := right_of hr
      have hsg := sumG_ok _ 0 (by omega) hpn (by rw [hs2]; omega)
      have hse : 0 + sumZ ((paid k ps last lv).take k) = amount := by rw [hs2]; omega
      rw [hse] at hsg
      have HSG := Lib.hid hsg; clear hsg hse hs2 hpn hnn hsum3 hsum
      go_wp2_with fail
      refine (rest_any _ _ _ _ _ hp ok last).mono ?_
      rintro e w4 ⟨v4, rfl, hown4, hp4, hg4⟩
      have hbl4 : Below w.heap.size w w4 := below_only hbl hg4 hbl.size hg
      obtain ⟨A4, c4, rfl⟩ := own_form hown4
      have hs4 := Sl.of_own hown4
      have hk4 : (k == k) = true := by simp
      have ha4 : (amount == amount) = true := by simp
      go_wp2_with fail
      refine (sum_any _ _ _ _ _ hs4).mono ?_
      rintro e w5 ⟨rfl, rfl⟩
      rw [HSG.out]
      go_wp2_with (go_at_call 23; refine (left_any _ _ _ _ _ hp4).mono ?_; rintro e w' ⟨rfl, rfl⟩)
      refine (pays_any _ _ _ _ _ hp4 ok2).mono ?_
      rintro e w6 ⟨v6, rfl, hown6, hb6⟩
      obtain ⟨A6, c6, rfl⟩ := own_form hown6
      have hp6 := hp4.later hb6
      have hbl6 := hbl4.trans (hb6.mono hbl4.size)
      go_wp2_with fail
      refine (alike_any _ _ _ _ _ _ _ _ _ (Sl.of_own hown6) (hs4.later hb6)).mono ?_
      rintro e w7' ⟨rfl, q7, rfl⟩
      rw [eqL_self]
      have hp7 := hp6.drewN q7
      have hbl7 : Below w.heap.size w (w6.drewN q7) := hbl6.trans (below_draws _ _ _)
      generalize w6.drewN q7 = w7 at hp7 hbl7 ⊢
      go_wp2_with fail
      refine (pay_any _ _ _ _ _ hp7 ok2 0 5).mono ?_
      rintro e w8 ⟨rfl, hp8, hg8⟩
      have e8 : payOf 0 5 = 0 := by decide
      rw [e8]
      clear e8 hp8
      have hbl8 : Below w.heap.size w w8 := below_only hbl7 hg8 hbl7.size hg
      go_wp2_with (go_at_call 15; refine (told_any _).mono ?_; rintro e w' ⟨rfl, hbt⟩)
      go_ret
      exact ⟨rfl, hbl8.trans (hbt.mono hbl8.size)⟩
end Go.Proofs.Ytfapechlnllfaaa
