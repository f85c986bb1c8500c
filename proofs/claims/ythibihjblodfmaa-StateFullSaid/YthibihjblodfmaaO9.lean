/- The document's reader: the number that bytes begin with. -/
import Derived.Test.YthibihjblodfmaaO8
namespace Go.Proofs.Ythibihjblodfmaa
open Go.RowKit

theorem pre_drop {bs : List Int} {j : Nat} {b : Int} (h : bs[j]? = some b) (m : Nat) : preB (m + 1) (bs.drop j) = b % 128 + 128 * preB m (bs.drop (j + 1)) := by
  rw [drop_cons h]; rfl
theorem pre_fit {bs : List Int} {k t : Nat} (hk : k ≤ 9) (ht : t ≤ k + 1) (hl : k < bs.length) (hb : ∀ b ∈ bs, 0 ≤ b ∧ b < 256) (h9 : k = 9 → bs.getD 9 0 ≤ 1) : 0 ≤ preB (k + 1 - t) (bs.drop t) ∧ preB (k + 1 - t) (bs.drop t) < 18446744073709551616 := by
  obtain ⟨h0, h1⟩ := pre_bound (k + 1 - t) (bs.drop t)
  refine ⟨h0, ?_⟩
  have e9 : (128 : Int) ^ 9 = 9223372036854775808 := by decide
  by_cases h : k + 1 - t = 10
  · obtain rfl : k = 9 := by omega
    obtain rfl : t = 0 := by omega
    rw [show 9 + 1 - 0 = 9 + 1 by rfl, List.drop_zero, pre_sum 9 bs hl]
    have ht := sum_top 9 bs hl
    have h2 := h9 rfl
    have h3 : bs.getD 9 0 % 128 + 1 ≤ 2 := by
      have : 0 ≤ bs.getD 9 0 := by
        rw [List.getD_eq_getElem?_getD, List.getElem?_eq_getElem hl]
        exact (hb _ (List.getElem_mem hl)).1
      omega
    have h4 : (128 : Int) ^ 9 * (bs.getD 9 0 % 128 + 1) ≤ 128 ^ 9 * 2 := Int.mul_le_mul_of_nonneg_left h3 (by decide)
    rw [e9] at h4 ht
    omega
  · have h2 : (128 : Int) ^ (k + 1 - t) ≤ 128 ^ 9 := pow128_le (by omega)
    omega
def RetL' (bs : List Int) (w : World) (e : Ending) (w' : World) : Prop :=
  e = .returned (.tuple #[.int .u64 (lookB bs).1, .int .i64 ((lookB bs).2.1 : Int), .int .i64 (lookB bs).2.2]) ∧ w = w'
set_option maxRecDepth 20000 in
theorem rnumber_any (w : World) (B : Nat) (A : Option Addr) (n c : Nat) (bs : List Int) (ho : ByOk bs) (hs : Sl w B 1 A n (bs.map (.int .u8))) :
    Calls Try.prog 120 #[.slice A n c] w (RetL bs w) := by
  have hlen := hs.length
  have hn := hs.le
  have HS := Lib.hid hs; have HL := Lib.hid hlen; have HO := Lib.hid ho
  obtain ⟨m, hm⟩ : ∃ m, min n 10 = m := ⟨_, rfl⟩
  have hm1 : m ≤ 10 := by omega
  have hm2 : m ≤ n := by omega
  have HM := Lib.hid hm
  have hm3 : m < n → 10 ≤ m := by omega
  have hm4 : m < 10 → n ≤ m := by omega
  clear hs hlen ho hm
  go_enter Try.func120, Try.ntmps120
  go_wp2_with fail
  go_loop [5] (fun is => ∃ (k : Nat), k ≤ m ∧ is = .int .i64 k ∧ Hid (∀ j, j < k → 128 ≤ bs.getD j 0)) (fun is => m - (intOf is).toNat)
  case atStart => exact ⟨0, by omega, rfl, fun j hj => by omega⟩
  case round =>
    obtain ⟨k, hk, rfl, HR⟩ := hrel
    by_cases hgo : k < m ∧ 128 ≤ bs.getD k 0
    · obtain ⟨hlt, hge⟩ := hgo
      obtain ⟨b, o, rfl, hbb, hcc⟩ := HS.out.spot (by omega) (by omega)
      obtain ⟨x, hx⟩ : ∃ x, bs[k]? = some x := ⟨bs[k]'(by rw [HL.out]; omega), List.getElem?_eq_getElem _⟩
      have hg : bs.getD k 0 = x := by rw [List.getD_eq_getElem?_getD, hx]; rfl
      have hc : w.cell? ⟨b, o + k, none⟩ = some (.int .u8 x) := hcc k _ (by rw [List.getElem?_map, hx]; rfl)
      rw [hg] at hge
      have HG := Lib.hid hg
      have hk1 : decide ((k : Int) < (n : Int)) = true := by simp; omega
      have hk2 : decide ((k : Int) < 10) = true := by simp; omega
      have hk3 : (k : Int) < n := by omega
      have hk4 : (k : Int) < 10 := by omega
      have hk5 : decide (128 ≤ x) = true := by simp; omega
      have hk0 : (0 : Int) ≤ k := by omega
      have hx1 := (HO.out x (List.mem_of_getElem? hx)).2
      clear hx hcc hg
      go_wp2_with fail
      go_round
      case rel =>
        refine ⟨k + 1, by omega, by go_num, fun j hj => ?_⟩
        by_cases hjk : j = k
        · subst hjk; rw [HG.out]; exact hge
        · exact HR.out j (by omega)
      case measure => simp [intOf]; omega
    · by_cases hkm : k < m
      · have hge : bs.getD k 0 < 128 := by
          rcases Int.lt_or_le (bs.getD k 0) 128 with h | h
          · exact h
          · exact absurd ⟨hkm, h⟩ hgo
        obtain ⟨b, o, rfl, hbb, hcc⟩ := HS.out.spot (by omega) (by omega)
        obtain ⟨x, hx⟩ : ∃ x, bs[k]? = some x := ⟨bs[k]'(by rw [HL.out]; omega), List.getElem?_eq_getElem _⟩
        have hg : bs.getD k 0 = x := by rw [List.getD_eq_getElem?_getD, hx]; rfl
        have hc : w.cell? ⟨b, o + k, none⟩ = some (.int .u8 x) := hcc k _ (by rw [List.getElem?_map, hx]; rfl)
        have hcl : ∀ (j : Nat) (y : Int), bs[j]? = some y → w.cell? ⟨b, o + j, none⟩ = some (.int .u8 y) := fun j y hy => hcc j _ (by rw [List.getElem?_map, hy]; rfl)
        rw [hg] at hge
        have HG := Lib.hid hg; have HC := Lib.hid hcl; have HX := Lib.hid hx
        have hk1 : decide ((k : Int) < (n : Int)) = true := by simp; omega
        have hk2 : decide ((k : Int) < 10) = true := by simp; omega
        have hk3 : (k : Int) < n := by omega
        have hk4 : (k : Int) < 10 := by omega
        have hk5 : decide (128 ≤ x) = false := by simp; omega
        have hk0 : (0 : Int) ≤ k := by omega
        obtain ⟨x0, x1⟩ := HO.out x (List.mem_of_getElem? hx)
        have hk6 : ((k : Int) == n) = false := by simp; omega
        have hk7 : ((k : Int) == 10) = false := by simp; omega
        have HRUN := Lib.hid (run_stop (by omega) hx hge HR.out)
        have HKL : Hid (¬ (k = bs.length ∧ k < 10)) := by show ¬ _; rw [HL.out]; omega
        have h9e : k = 9 → bs.getD 9 0 = x := fun h => by rw [← h]; exact hg
        by_cases hform : (0 < k ∧ x = 0) ∨ (k = 9 ∧ 1 < x)
        · have HLK := Lib.hid (look_form HRUN.out HKL.out (.inr (by
            rcases hform with ⟨h1, h2⟩ | ⟨h1, h2⟩
            · exact .inl ⟨h1, by rw [HG.out]; exact h2⟩
            · exact .inr ⟨h1, by rw [h9e h1]; exact h2⟩)))
          have H9 := Lib.hid h9e
          clear hx hcc hg hcl h9e hgo
          by_cases hx0 : x = 0
          · have hkp : 0 < k := by omega
            have hk8 : decide ((0 : Int) < (k : Int)) = true := by simp; omega
            have hk9 : decide (0 < k) = true := by simp; omega
            have hx3 : (x == 0) = true := by simp; omega
            clear hform hx0
            go_wp2_with fail
            go_ret3
            go_light
            exact ⟨by rw [HLK.out]; rfl, rfl⟩
          · obtain ⟨hk9, hx1⟩ : k = 9 ∧ 1 < x := by omega
            subst hk9
            have hx3 : (x == 0) = false := by simp; omega
            have hx4 : decide (1 < x) = true := by simp; omega
            clear hform hx0
            go_wp2_with fail
            go_ret3
            go_light
            exact ⟨by rw [HLK.out]; rfl, rfl⟩
        · have HLK := Lib.hid (look_is HRUN.out HKL.out (by
            rintro (h | ⟨h1, h2⟩ | ⟨h1, h2⟩)
            · omega
            · rw [HG.out] at h2; exact hform (.inl ⟨h1, h2⟩)
            · rw [h9e h1] at h2; exact hform (.inr ⟨h1, h2⟩)))
          have hkl : k < bs.length := by rw [HL.out]; omega
          have HF := Lib.hid (fun (t : Nat) (ht : t ≤ k + 1) => pre_fit (bs := bs) (k := k) (t := t) (by omega) ht hkl HO.out (fun h => by rw [h9e h]; omega))
          have HKLL := Lib.hid hkl
          have hf1 : 0 < k → (x == 0) = false := fun h => by simp; omega
          have hf2 : k = 9 → decide (1 < x) = false := fun h => by simp; omega
          clear hx hcc hg hcl h9e hgo hkl
          have hx9 : k = 9 → x ≤ 1 := by omega
          have hc9 : k = 9 → w.cell? ⟨b, o + 9, none⟩ = some (.int .u8 x) := fun h => by rw [← h]; exact hc
          have HC9 := Lib.hid hc9; have HF1 := Lib.hid hf1; have HF2 := Lib.hid hf2
          have hways : (k = 9 ∧ 0 < k) ∨ (¬ k = 9 ∧ 0 < k) ∨ (¬ k = 9 ∧ ¬ 0 < k) := by omega
          clear hc9 hf1 hf2 hform hx9
          rcases hways with ⟨hk9, hkp⟩ | ⟨hk9, hkp⟩ | ⟨hk9, hkp⟩
          · have hc9 := HC9.out hk9
            have a1 := HF1.out hkp
            have a2 := HF2.out hk9
            have a3 : decide ((0 : Int) < (k : Int)) = true := by simp; omega
            have a4 : ((k : Int) == 9) = true := by simp; omega
            have a5 : (9 : Int) < n := by omega
            clear hk9
            go_wp2_with fail
            go_loop [6, 7] (fun ns is => ∃ (t : Nat), t ≤ k + 1 ∧ is = .int .i64 ((t : Int) - 1) ∧ ns = .int .u64 (preB (k + 1 - t) (bs.drop t))) (fun _ is => (intOf is + 1).toNat)
            case atStart => exact ⟨k + 1, by omega, by congr 1; omega, by rw [Nat.sub_self]; rfl⟩
            case round =>
              obtain ⟨t, ht, rfl, rfl⟩ := hrel
              by_cases ht0 : 0 < t
              · obtain ⟨j, rfl⟩ : ∃ j, t = j + 1 := ⟨t - 1, by omega⟩
                obtain ⟨y, hy⟩ : ∃ y, bs[j]? = some y := ⟨bs[j]'(by have := HKLL.out; omega), List.getElem?_eq_getElem _⟩
                have hcy := HC.out j y hy
                obtain ⟨y0, y1⟩ := HO.out y (List.mem_of_getElem? hy)
                have hst := pre_drop hy (k + 1 - (j + 1))
                obtain ⟨p0, p1⟩ := HF.out (j + 1) ht
                obtain ⟨q0, q1⟩ := HF.out j (by omega)
                rw [show k + 1 - j = k + 1 - (j + 1) + 1 by omega, hst] at q0 q1
                have hw : IntKind.u64.wrap (IntKind.u64.wrap (128 * preB (k + 1 - (j + 1)) (bs.drop (j + 1))) + y % 128) = preB (k + 1 - j) (bs.drop j) := by
                  rw [show k + 1 - j = k + 1 - (j + 1) + 1 by omega, hst, IntKind.wrap_u64, IntKind.wrap_u64]
                  omega
                have HW := Lib.hid hw
                obtain ⟨P, hP⟩ : ∃ P, preB (k + 1 - (j + 1)) (bs.drop (j + 1)) = P := ⟨_, rfl⟩
                rw [hP] at HW ⊢
                have ej : ((j + 1 : Nat) : Int) - 1 = j := by omega
                rw [ej]
                have hj0 : (0 : Int) ≤ j := by omega
                have hjn : (j : Int) < n := by omega
                clear hy hst p0 p1 q0 q1 hw hP ej
                go_wp2_with fail
                go_round
                case rel => exact ⟨j, by omega, rfl, by rw [HW.out]⟩
                case measure => simp [intOf] <;> omega
              · obtain rfl : t = 0 := by omega
                have hfin : preB (k + 1 - 0) (bs.drop 0) = sumB k bs := by rw [List.drop_zero]; exact pre_sum k bs HKLL.out
                have HFI := Lib.hid hfin
                obtain ⟨P, hP⟩ : ∃ P, preB (k + 1 - 0) (bs.drop 0) = P := ⟨_, rfl⟩
                rw [hP] at HFI ⊢
                clear hfin hP
                go_wp2_with fail
                go_ret3
                go_light
                refine ⟨?_, rfl⟩
                rw [HLK.out]
                exact ret3 HFI.out rfl rfl
          · have a1 := HF1.out hkp
            have a3 : decide ((0 : Int) < (k : Int)) = true := by simp; omega
            have a4 : ((k : Int) == 9) = false := by simp; omega
            go_wp2_with fail
            go_loop [6, 7] (fun ns is => ∃ (t : Nat), t ≤ k + 1 ∧ is = .int .i64 ((t : Int) - 1) ∧ ns = .int .u64 (preB (k + 1 - t) (bs.drop t))) (fun _ is => (intOf is + 1).toNat)
            case atStart => exact ⟨k + 1, by omega, by congr 1; omega, by rw [Nat.sub_self]; rfl⟩
            case round =>
              obtain ⟨t, ht, rfl, rfl⟩ := hrel
              by_cases ht0 : 0 < t
              · obtain ⟨j, rfl⟩ : ∃ j, t = j + 1 := ⟨t - 1, by omega⟩
                obtain ⟨y, hy⟩ : ∃ y, bs[j]? = some y := ⟨bs[j]'(by have := HKLL.out; omega), List.getElem?_eq_getElem _⟩
                have hcy := HC.out j y hy
                obtain ⟨y0, y1⟩ := HO.out y (List.mem_of_getElem? hy)
                have hst := pre_drop hy (k + 1 - (j + 1))
                obtain ⟨p0, p1⟩ := HF.out (j + 1) ht
                obtain ⟨q0, q1⟩ := HF.out j (by omega)
                rw [show k + 1 - j = k + 1 - (j + 1) + 1 by omega, hst] at q0 q1
                have hw : IntKind.u64.wrap (IntKind.u64.wrap (128 * preB (k + 1 - (j + 1)) (bs.drop (j + 1))) + y % 128) = preB (k + 1 - j) (bs.drop j) := by
                  rw [show k + 1 - j = k + 1 - (j + 1) + 1 by omega, hst, IntKind.wrap_u64, IntKind.wrap_u64]
                  omega
                have HW := Lib.hid hw
                obtain ⟨P, hP⟩ : ∃ P, preB (k + 1 - (j + 1)) (bs.drop (j + 1)) = P := ⟨_, rfl⟩
                rw [hP] at HW ⊢
                have ej : ((j + 1 : Nat) : Int) - 1 = j := by omega
                rw [ej]
                have hj0 : (0 : Int) ≤ j := by omega
                have hjn : (j : Int) < n := by omega
                clear hy hst p0 p1 q0 q1 hw hP ej
                go_wp2_with fail
                go_round
                case rel => exact ⟨j, by omega, rfl, by rw [HW.out]⟩
                case measure => simp [intOf] <;> omega
              · obtain rfl : t = 0 := by omega
                have hfin : preB (k + 1 - 0) (bs.drop 0) = sumB k bs := by rw [List.drop_zero]; exact pre_sum k bs HKLL.out
                have HFI := Lib.hid hfin
                obtain ⟨P, hP⟩ : ∃ P, preB (k + 1 - 0) (bs.drop 0) = P := ⟨_, rfl⟩
                rw [hP] at HFI ⊢
                clear hfin hP
                go_wp2_with fail
                go_ret3
                go_light
                refine ⟨?_, rfl⟩
                rw [HLK.out]
                exact ret3 HFI.out rfl rfl
          · have a3 : decide ((0 : Int) < (k : Int)) = false := by simp; omega
            have a4 : ((k : Int) == 9) = false := by simp; omega
            go_wp2_with fail
            go_loop [6, 7] (fun ns is => ∃ (t : Nat), t ≤ k + 1 ∧ is = .int .i64 ((t : Int) - 1) ∧ ns = .int .u64 (preB (k + 1 - t) (bs.drop t))) (fun _ is => (intOf is + 1).toNat)
            case atStart => exact ⟨k + 1, by omega, by congr 1; omega, by rw [Nat.sub_self]; rfl⟩
            case round =>
              obtain ⟨t, ht, rfl, rfl⟩ := hrel
              by_cases ht0 : 0 < t
              · obtain ⟨j, rfl⟩ : ∃ j, t = j + 1 := ⟨t - 1, by omega⟩
                obtain ⟨y, hy⟩ : ∃ y, bs[j]? = some y := ⟨bs[j]'(by have := HKLL.out; omega), List.getElem?_eq_getElem _⟩
                have hcy := HC.out j y hy
                obtain ⟨y0, y1⟩ := HO.out y (List.mem_of_getElem? hy)
                have hst := pre_drop hy (k + 1 - (j + 1))
                obtain ⟨p0, p1⟩ := HF.out (j + 1) ht
                obtain ⟨q0, q1⟩ := HF.out j (by omega)
                rw [show k + 1 - j = k + 1 - (j + 1) + 1 by omega, hst] at q0 q1
                have hw : IntKind.u64.wrap (IntKind.u64.wrap (128 * preB (k + 1 - (j + 1)) (bs.drop (j + 1))) + y % 128) = preB (k + 1 - j) (bs.drop j) := by
                  rw [show k + 1 - j = k + 1 - (j + 1) + 1 by omega, hst, IntKind.wrap_u64, IntKind.wrap_u64]
                  omega
                have HW := Lib.hid hw
                obtain ⟨P, hP⟩ : ∃ P, preB (k + 1 - (j + 1)) (bs.drop (j + 1)) = P := ⟨_, rfl⟩
                rw [hP] at HW ⊢
                have ej : ((j + 1 : Nat) : Int) - 1 = j := by omega
                rw [ej]
                have hj0 : (0 : Int) ≤ j := by omega
                have hjn : (j : Int) < n := by omega
                clear hy hst p0 p1 q0 q1 hw hP ej
                go_wp2_with fail
                go_round
                case rel => exact ⟨j, by omega, rfl, by rw [HW.out]⟩
                case measure => simp [intOf] <;> omega
              · obtain rfl : t = 0 := by omega
                have hfin : preB (k + 1 - 0) (bs.drop 0) = sumB k bs := by rw [List.drop_zero]; exact pre_sum k bs HKLL.out
                have HFI := Lib.hid hfin
                obtain ⟨P, hP⟩ : ∃ P, preB (k + 1 - 0) (bs.drop 0) = P := ⟨_, rfl⟩
                rw [hP] at HFI ⊢
                clear hfin hP
                go_wp2_with fail
                go_ret3
                go_light
                refine ⟨?_, rfl⟩
                rw [HLK.out]
                exact ret3 HFI.out rfl rfl
      · obtain rfl : k = m := by omega
        have HRUN := Lib.hid (run_end (bs := bs) (k := k) (by rw [HL.out]; exact HM.out.symm) HR.out)
        by_cases hk10 : k = 10
        · have HLK := Lib.hid (look_form HRUN.out (by omega) (.inl hk10))
          have hn10 : (10 : Int) ≤ n := by omega
          subst hk10
          clear hgo
          by_cases hnn : n = 10
          · subst hnn
            go_wp2_with fail
            go_ret3
            go_light
            exact ⟨by rw [HLK.out]; rfl, rfl⟩
          · have h1 : decide ((10 : Int) < (n : Int)) = true := by simp; omega
            have h2 : decide (10 < n) = true := by simp; omega
            have h3 : ((10 : Int) == (n : Int)) = false := by simp; omega
            have h4 : (10 : Int) < n := by omega
            go_wp2_with fail
            go_ret3
            go_light
            exact ⟨by rw [HLK.out]; rfl, rfl⟩
        · have HLK := Lib.hid (look_short HRUN.out (by rw [HL.out]; omega) (by omega))
          obtain rfl : k = n := by omega
          have h2 : decide ((k : Int) < 10) = true := by simp; omega
          have h3 : (k : Int) < 10 := by omega
          clear hgo
          go_wp2_with fail
          go_ret3
          go_light
          exact ⟨by rw [HLK.out]; rfl, rfl⟩
end Go.Proofs.Ythibihjblodfmaa
