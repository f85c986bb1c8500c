/- The document's numbers and bytes. The document's reader: the number that bytes begin with. The document's reader. The document's reader: bytes. Bytes as strings, compared. -/
import Derived.Test.YtbpmomedhdmloaaGreatDoorOB
import Derived.Test.YtbpmomedhdmloaaGreatDoorOA
/-! The document's numbers and bytes. -/
namespace Go.Proofs.YtbpmomedhdmloaaGreatDoor
open Go.RowKit

set_option maxRecDepth 20000 in
theorem rNum_any (w : World) (n : Nat) (hn : Hid (n < 18446744073709551616)) :
    Calls Tryz.prog 41 #[.int .u64 n] w (RetB w.heap.size (numB n) w) := by
  obtain ⟨i0, hi, hi0, hi1, hi2⟩ := info_parts Tryz.infoU8
  have HN := hn
  clear hn
  go_enter Tryz.func41, Tryz.ntmps41
  go_wp2_with fail
  go_loopw [0, 3] (fun ns vs wr => ∃ (done : List Int) (f m : Nat), f + done.length = 9 ∧ ns = .int .u64 m ∧ Hid (m < 128 ^ (f + 1)) ∧ Hid (m < 18446744073709551616) ∧ Hid (done ++ numF f m = numB n) ∧ Hid (wr.ownsRow w.heap.size 5 1 vs done.length (done.map (.int .u8))) ∧ Hid (Below w.heap.size w wr)) (fun ns _ _ => (intOf ns).toNat)
  case atStart => exact ⟨[], 9, n, rfl, rfl, (by have := HN.out; show n < 128 ^ 10; omega), HN.out, by show [] ++ numF 9 n = numB n; rfl, World.ownsRow_nil _ _ _ _, Below.refl _ _⟩
  case round =>
    obtain ⟨done, f, m, hf, rfl, HM, HM2, HD, HOW, HB⟩ := hrel
    have hfd : done.length ≤ 9 := by omega
    obtain ⟨L, hL⟩ : ∃ L, done.length = L := ⟨_, rfl⟩
    rw [hL] at HOW hfd
    have HL := Lib.hid hL
    have hsz := HB.out.size
    clear hL
    by_cases hlt : 128 ≤ m
    · have hm1 : decide ((128 : Int) ≤ (m : Int)) = true := by simp; omega
      have hm2 : (128 : Int) ≤ (m : Int) := by omega
      obtain ⟨f', rfl⟩ : ∃ f', f = f' + 1 := ⟨f - 1, by rcases Nat.eq_zero_or_pos f with rfl | h; · have := HM.out; omega
                                                        · omega⟩
      have HX : Hid ((128 : Int) + (m : Int) % 128 = ((m % 128 + 128 : Nat) : Int)) := by show _ = _; omega
      have hw1 : IntKind.u64.wrap (128 + (m : Int) % 128) = 128 + (m : Int) % 128 := by rw [IntKind.wrap_u64]; omega
      have hw2 : IntKind.u64.wrap ((m : Int).tmod 128) = (m : Int) % 128 := by rw [IntKind.wrap_u64, Int.tmod_eq_emod_of_nonneg (by omega)]; omega
      have hw3 : IntKind.u64.wrap ((m : Int) / 128) = (m : Int) / 128 := by have := HM2.out; rw [IntKind.wrap_u64]; omega
      go_wp2_with (at_builtin; refine wpList_app _ rfl (.tmp 6) (.tmp 11) 60 rfl w.heap.size 5 i0 (.int .u8 0) 1 1 Tryz.underlying60 hi hi0 hi1 hi2 rfl (by decide) u3 L (done.map (.int .u8)) rfl (HOW.out.alloc _) _ _ 1 1 [.int .u8 (128 + (m : Int) % 128)] rfl (sl_new wr #[.int .u8 (128 + (m : Int) % 128)] 5 1 1 rfl (by omega)) (by simp [Value.oneCell']) (by unfold maxLen; omega) (by omega) (by simp; omega) ?_; intro v1 w3 hown1 hg1 hat1; have hb3 := grown_below (HB.out.alloc hsz (.cells #[.int .u8 (128 + (m : Int) % 128)] 5)) (HOW.out.alloc _) hg1 (Nat.le_refl _) (by simp; omega); have HO3 := Lib.hid hown1; have HB3 := Lib.hid hb3; clear hown1 hg1 hat1 hb3)
      go_roundw
      case rel =>
        refine ⟨done ++ [((m % 128 + 128 : Nat) : Int)], f', m / 128, by have := HL.out; simp; omega, by go_num, ?_, ?_, ?_, ?_, HB3⟩
        · have := HM.out
          show _ < _
          exact Nat.div_lt_of_lt_mul (by rw [Nat.pow_succ, Nat.mul_comm] at this; exact this)
        · have := HM2.out; show _ < _; omega
        · show _ = _
          rw [← HD.out, numF_big hlt, List.append_assoc]; rfl
        · have := HO3.out
          rw [HX.out] at this
          show World.ownsRow _ _ _ _ _ _ _
          rw [List.length_append, List.map_append, HL.out]
          exact this
      case measure => simp [intOf]; omega
    · have hm1 : decide ((128 : Int) ≤ (m : Int)) = false := by simp; omega
      have hm2 : (m : Int) < 128 := by omega
      have hfin : done ++ [(m : Int)] = numB n := by rw [← HD.out, numF_small (by omega)]
      have HF := Lib.hid hfin
      clear hfin
      go_wp2_with (at_builtin; refine wpList_app _ rfl (.tmp 15) (.tmp 18) 60 rfl w.heap.size 5 i0 (.int .u8 0) 1 1 Tryz.underlying60 hi hi0 hi1 hi2 rfl (by decide) u3 L (done.map (.int .u8)) rfl (HOW.out.alloc _) _ _ 1 1 [.int .u8 (m : Int)] rfl (sl_new wr #[.int .u8 (m : Int)] 5 1 1 rfl (by omega)) (by simp [Value.oneCell']) (by unfold maxLen; omega) (by omega) (by simp; omega) ?_; intro v1 w3 hown1 hg1 hat1; have hb3 := grown_below (HB.out.alloc hsz (.cells #[.int .u8 (m : Int)] 5)) (HOW.out.alloc _) hg1 (Nat.le_refl _) (by simp; omega); have HO3 := Lib.hid hown1; have HB3 := Lib.hid hb3; clear hown1 hg1 hat1 hb3)
      go_ret
      refine ⟨_, rfl, ?_, HB3.out⟩
      have := HO3.out
      rw [← HF.out, List.length_append, List.map_append, HL.out]
      exact this
theorem rBytes_any (w : World) (A : Option Addr) (n c : Nat) (bs : List Int) (hs : Sl w w.heap.size 1 A n (bs.map (.int .u8))) (hn : n ≤ 1073741824) :
    Calls Tryz.prog 58 #[.slice A n c] w (RetB w.heap.size (numB n ++ bs) w) := by
  obtain ⟨i0, hi, hi0, hi1, hi2⟩ := info_parts Tryz.infoU8
  have hlen := hs.length
  have HS := Lib.hid hs; have HL := Lib.hid hlen
  have hnl := (numF_len 9 n).2
  clear hs hlen
  go_enter Tryz.func58, Tryz.ntmps58
  go_wp2_with fail
  refine (rNum_any _ n (by show _ < _; omega)).mono ?_
  rintro e w2 ⟨v2, rfl, hown2, hb2⟩
  have HB2 := Lib.hid hb2; have HO2 := Lib.hid hown2
  have HS2 := Lib.hid (HS.out.below HB2.out)
  obtain ⟨L, hL⟩ : ∃ L, (numB n).length = L := ⟨_, rfl⟩
  have hLn : L ≤ 10 := by rw [← hL]; exact hnl
  rw [hL] at HO2
  have HLL := Lib.hid hL
  clear hb2 hown2 hL hnl
  go_wp2_with (at_builtin; refine wpList_app _ rfl (.tmp 6) (.tmp 7) 60 rfl w.heap.size 5 i0 (.int .u8 0) 1 1 Tryz.underlying60 hi hi0 hi1 hi2 rfl (by decide) _ L _ rfl HO2.out _ _ n c (bs.map (.int .u8)) rfl HS2.out (ints_one _ _) (by unfold maxLen; omega) (by omega) HB2.out.size ?_; intro v3 w3 hown3 hg3 hat3; have hb3 := grown_below HB2.out HO2.out hg3 (Nat.le_refl _) HB2.out.size; have HO3 := Lib.hid hown3; have HB3 := Lib.hid hb3; clear hown3 hg3 hb3 hat3)
  go_ret
  have := HO3.out
  rw [← List.map_append, ← HLL.out, ← HL.out, ← List.length_append] at this
  refine ⟨_, rfl, ?_, HB3.out⟩
  rw [← HL.out]
  exact this

end Go.Proofs.YtbpmomedhdmloaaGreatDoor

/-! The document's reader: the number that bytes begin with. -/
namespace Go.Proofs.YtbpmomedhdmloaaGreatDoor
open Go.RowKit

theorem pre_drop {bs : List Int} {j : Nat} {b : Int} (h : bs[j]? = some b) (m : Nat) : preB (m + 1) (bs.drop j) = b % 128 + 128 * preB m (bs.drop (j + 1)) := by
  rw [drop_cons h]; rfl
theorem pre_fit {bs : List Int} {k t : Nat} (hk : k ≤ 9) (ht : t ≤ k + 1) (hl : k < bs.length) (hb : ∀ b ∈ bs, 0 ≤ b ∧ b < 256) (h9 : k = 9 → bs.getD 9 0 ≤ 1) : 0 ≤ preB (k + 1 - t) (bs.drop t) ∧ preB (k + 1 - t) (bs.drop t) < 18446744073709551616 := by
  obtain ⟨h0, h1⟩ := pre_bound (k + 1 - t) (bs.drop t)
  refine ⟨h0, ?_⟩
  have e9 : (128 : Int) ^ 9 = 9223372036854775808 := by decide
  by_cases h : k + 1 - t = 10
  · obtain rfl : k = 9 := by omega
    obtain rfl : t = 0 := by omega
    rw [show 9 + 1 - 0 = 9 + 1 by rfl, List.drop_zero, pre_sum 9 bs hl]
    have ht := sum_top 9 bs hl
    have h2 := h9 rfl
    have h3 : bs.getD 9 0 % 128 + 1 ≤ 2 := by
      have : 0 ≤ bs.getD 9 0 := by
        rw [List.getD_eq_getElem?_getD, List.getElem?_eq_getElem hl]
        exact (hb _ (List.getElem_mem hl)).1
      omega
    have h4 : (128 : Int) ^ 9 * (bs.getD 9 0 % 128 + 1) ≤ 128 ^ 9 * 2 := Int.mul_le_mul_of_nonneg_left h3 (by decide)
    rw [e9] at h4 ht
    omega
  · have h2 : (128 : Int) ^ (k + 1 - t) ≤ 128 ^ 9 := pow128_le (by omega)
    omega
def RetL' (bs : List Int) (w : World) (e : Ending) (w' : World) : Prop :=
  e = .returned (.tuple #[.int .u64 (lookB bs).1, .int .i64 ((lookB bs).2.1 : Int), .int .i64 (lookB bs).2.2]) ∧ w = w'
set_option maxRecDepth 20000 in
theorem rnumber_any (w : World) (B : Nat) (A : Option Addr) (n c : Nat) (bs : List Int) (ho : ByOk bs) (hs : Sl w B 1 A n (bs.map (.int .u8))) :
    Calls Tryz.prog 105 #[.slice A n c] w (RetL bs w) := by
  have hlen := hs.length
  have hn := hs.le
  have HS := Lib.hid hs; have HL := Lib.hid hlen; have HO := Lib.hid ho
  obtain ⟨m, hm⟩ : ∃ m, min n 10 = m := ⟨_, rfl⟩
  have hm1 : m ≤ 10 := by omega
  have hm2 : m ≤ n := by omega
  have HM := Lib.hid hm
  have hm3 : m < n → 10 ≤ m := by omega
  have hm4 : m < 10 → n ≤ m := by omega
  clear hs hlen ho hm
  go_enter Tryz.func105, Tryz.ntmps105
  go_wp2_with fail
  go_loop [5] (fun is => ∃ (k : Nat), k ≤ m ∧ is = .int .i64 k ∧ Hid (∀ j, j < k → 128 ≤ bs.getD j 0)) (fun is => m - (intOf is).toNat)
  case atStart => exact ⟨0, by omega, rfl, fun j hj => by omega⟩
  case round =>
    obtain ⟨k, hk, rfl, HR⟩ := hrel
    by_cases hgo : k < m ∧ 128 ≤ bs.getD k 0
    · obtain ⟨hlt, hge⟩ := hgo
      obtain ⟨b, o, rfl, hbb, hcc⟩ := HS.out.spot (by omega) (by omega)
      obtain ⟨x, hx⟩ : ∃ x, bs[k]? = some x := ⟨bs[k]'(by rw [HL.out]; omega), List.getElem?_eq_getElem _⟩
      have hg : bs.getD k 0 = x := by rw [List.getD_eq_getElem?_getD, hx]; rfl
      have hc : w.cell? ⟨b, o + k, none⟩ = some (.int .u8 x) := hcc k _ (by rw [List.getElem?_map, hx]; rfl)
      rw [hg] at hge
      have HG := Lib.hid hg
      have hk1 : decide ((k : Int) < (n : Int)) = true := by simp; omega
      have hk2 : decide ((k : Int) < 10) = true := by simp; omega
      have hk3 : (k : Int) < n := by omega
      have hk4 : (k : Int) < 10 := by omega
      have hk5 : decide (128 ≤ x) = true := by simp; omega
      have hk0 : (0 : Int) ≤ k := by omega
      have hx1 := (HO.out x (List.mem_of_getElem? hx)).2
      clear hx hcc hg
      go_wp2_with fail
      go_round
      case rel =>
        refine ⟨k + 1, by omega, by go_num, fun j hj => ?_⟩
        by_cases hjk : j = k
        · subst hjk; rw [HG.out]; exact hge
        · exact HR.out j (by omega)
      case measure => simp [intOf]; omega
    · by_cases hkm : k < m
      · have hge : bs.getD k 0 < 128 := by
          rcases Int.lt_or_le (bs.getD k 0) 128 with h | h
          · exact h
          · exact absurd ⟨hkm, h⟩ hgo
        obtain ⟨b, o, rfl, hbb, hcc⟩ := HS.out.spot (by omega) (by omega)
        obtain ⟨x, hx⟩ : ∃ x, bs[k]? = some x := ⟨bs[k]'(by rw [HL.out]; omega), List.getElem?_eq_getElem _⟩
        have hg : bs.getD k 0 = x := by rw [List.getD_eq_getElem?_getD, hx]; rfl
        have hc : w.cell? ⟨b, o + k, none⟩ = some (.int .u8 x) := hcc k _ (by rw [List.getElem?_map, hx]; rfl)
        have hcl : ∀ (j : Nat) (y : Int), bs[j]? = some y → w.cell? ⟨b, o + j, none⟩ = some (.int .u8 y) := fun j y hy => hcc j _ (by rw [List.getElem?_map, hy]; rfl)
        rw [hg] at hge
        have HG := Lib.hid hg; have HC := Lib.hid hcl; have HX := Lib.hid hx
        have hk1 : decide ((k : Int) < (n : Int)) = true := by simp; omega
        have hk2 : decide ((k : Int) < 10) = true := by simp; omega
        have hk3 : (k : Int) < n := by omega
        have hk4 : (k : Int) < 10 := by omega
        have hk5 : decide (128 ≤ x) = false := by simp; omega
        have hk0 : (0 : Int) ≤ k := by omega
        obtain ⟨x0, x1⟩ := HO.out x (List.mem_of_getElem? hx)
        have hk6 : ((k : Int) == n) = false := by simp; omega
        have hk7 : ((k : Int) == 10) = false := by simp; omega
        have HRUN := Lib.hid (run_stop (by omega) hx hge HR.out)
        have HKL : Hid (¬ (k = bs.length ∧ k < 10)) := by show ¬ _; rw [HL.out]; omega
        have h9e : k = 9 → bs.getD 9 0 = x := fun h => by rw [← h]; exact hg
        by_cases hform : (0 < k ∧ x = 0) ∨ (k = 9 ∧ 1 < x)
        · have HLK := Lib.hid (look_form HRUN.out HKL.out (.inr (by
            rcases hform with ⟨h1, h2⟩ | ⟨h1, h2⟩
            · exact .inl ⟨h1, by rw [HG.out]; exact h2⟩
            · exact .inr ⟨h1, by rw [h9e h1]; exact h2⟩)))
          have H9 := Lib.hid h9e
          clear hx hcc hg hcl h9e hgo
          by_cases hx0 : x = 0
          · have hkp : 0 < k := by omega
            have hk8 : decide ((0 : Int) < (k : Int)) = true := by simp; omega
            have hk9 : decide (0 < k) = true := by simp; omega
            have hx3 : (x == 0) = true := by simp; omega
            clear hform hx0
            go_wp2_with fail
            go_ret3
            go_light
            exact ⟨by rw [HLK.out]; rfl, rfl⟩
          · obtain ⟨hk9, hx1⟩ : k = 9 ∧ 1 < x := by omega
            subst hk9
            have hx3 : (x == 0) = false := by simp; omega
            have hx4 : decide (1 < x) = true := by simp; omega
            clear hform hx0
            go_wp2_with fail
            go_ret3
            go_light
            exact ⟨by rw [HLK.out]; rfl, rfl⟩
        · have HLK := Lib.hid (look_is HRUN.out HKL.out (by
            rintro (h | ⟨h1, h2⟩ | ⟨h1, h2⟩)
            · omega
            · rw [HG.out] at h2; exact hform (.inl ⟨h1, h2⟩)
            · rw [h9e h1] at h2; exact hform (.inr ⟨h1, h2⟩)))
          have hkl : k < bs.length := by rw [HL.out]; omega
          have HF := Lib.hid (fun (t : Nat) (ht : t ≤ k + 1) => pre_fit (bs := bs) (k := k) (t := t) (by omega) ht hkl HO.out (fun h => by rw [h9e h]; omega))
          have HKLL := Lib.hid hkl
          have hf1 : 0 < k → (x == 0) = false := fun h => by simp; omega
          have hf2 : k = 9 → decide (1 < x) = false := fun h => by simp; omega
          clear hx hcc hg hcl h9e hgo hkl
          have hx9 : k = 9 → x ≤ 1 := by omega
          have hc9 : k = 9 → w.cell? ⟨b, o + 9, none⟩ = some (.int .u8 x) := fun h => by rw [← h]; exact hc
          have HC9 := Lib.hid hc9; have HF1 := Lib.hid hf1; have HF2 := Lib.hid hf2
          have hways : (k = 9 ∧ 0 < k) ∨ (¬ k = 9 ∧ 0 < k) ∨ (¬ k = 9 ∧ ¬ 0 < k) := by omega
          clear hc9 hf1 hf2 hform hx9
          rcases hways with ⟨hk9, hkp⟩ | ⟨hk9, hkp⟩ | ⟨hk9, hkp⟩
          · have hc9 := HC9.out hk9
            have a1 := HF1.out hkp
            have a2 := HF2.out hk9
            have a3 : decide ((0 : Int) < (k : Int)) = true := by simp; omega
            have a4 : ((k : Int) == 9) = true := by simp; omega
            have a5 : (9 : Int) < n := by omega
            clear hk9
            go_wp2_with fail
            go_loop [6, 7] (fun ns is => ∃ (t : Nat), t ≤ k + 1 ∧ is = .int .i64 ((t : Int) - 1) ∧ ns = .int .u64 (preB (k + 1 - t) (bs.drop t))) (fun _ is => (intOf is + 1).toNat)
            case atStart => exact ⟨k + 1, by omega, by congr 1; omega, by rw [Nat.sub_self]; rfl⟩
            case round =>
              obtain ⟨t, ht, rfl, rfl⟩ := hrel
              by_cases ht0 : 0 < t
              · obtain ⟨j, rfl⟩ : ∃ j, t = j + 1 := ⟨t - 1, by omega⟩
                obtain ⟨y, hy⟩ : ∃ y, bs[j]? = some y := ⟨bs[j]'(by have := HKLL.out; omega), List.getElem?_eq_getElem _⟩
                have hcy := HC.out j y hy
                obtain ⟨y0, y1⟩ := HO.out y (List.mem_of_getElem? hy)
                have hst := pre_drop hy (k + 1 - (j + 1))
                obtain ⟨p0, p1⟩ := HF.out (j + 1) ht
                obtain ⟨q0, q1⟩ := HF.out j (by omega)
                rw [show k + 1 - j = k + 1 - (j + 1) + 1 by omega, hst] at q0 q1
                have hw : IntKind.u64.wrap (IntKind.u64.wrap (128 * preB (k + 1 - (j + 1)) (bs.drop (j + 1))) + y % 128) = preB (k + 1 - j) (bs.drop j) := by
                  rw [show k + 1 - j = k + 1 - (j + 1) + 1 by omega, hst, IntKind.wrap_u64, IntKind.wrap_u64]
                  omega
                have HW := Lib.hid hw
                obtain ⟨P, hP⟩ : ∃ P, preB (k + 1 - (j + 1)) (bs.drop (j + 1)) = P := ⟨_, rfl⟩
                rw [hP] at HW ⊢
                have ej : ((j + 1 : Nat) : Int) - 1 = j := by omega
                rw [ej]
                have hj0 : (0 : Int) ≤ j := by omega
                have hjn : (j : Int) < n := by omega
                clear hy hst p0 p1 q0 q1 hw hP ej
                go_wp2_with fail
                go_round
                case rel => exact ⟨j, by omega, rfl, by rw [HW.out]⟩
                case measure => simp [intOf] <;> omega
              · obtain rfl : t = 0 := by omega
                have hfin : preB (k + 1 - 0) (bs.drop 0) = sumB k bs := by rw [List.drop_zero]; exact pre_sum k bs HKLL.out
                have HFI := Lib.hid hfin
                obtain ⟨P, hP⟩ : ∃ P, preB (k + 1 - 0) (bs.drop 0) = P := ⟨_, rfl⟩
                rw [hP] at HFI ⊢
                clear hfin hP
                go_wp2_with fail
                go_ret3
                go_light
                refine ⟨?_, rfl⟩
                rw [HLK.out]
                exact ret3 HFI.out rfl rfl
          · have a1 := HF1.out hkp
            have a3 : decide ((0 : Int) < (k : Int)) = true := by simp; omega
            have a4 : ((k : Int) == 9) = false := by simp; omega
            go_wp2_with fail
            go_loop [6, 7] (fun ns is => ∃ (t : Nat), t ≤ k + 1 ∧ is = .int .i64 ((t : Int) - 1) ∧ ns = .int .u64 (preB (k + 1 - t) (bs.drop t))) (fun _ is => (intOf is + 1).toNat)
            case atStart => exact ⟨k + 1, by omega, by congr 1; omega, by rw [Nat.sub_self]; rfl⟩
            case round =>
              obtain ⟨t, ht, rfl, rfl⟩ := hrel
              by_cases ht0 : 0 < t
              · obtain ⟨j, rfl⟩ : ∃ j, t = j + 1 := ⟨t - 1, by omega⟩
                obtain ⟨y, hy⟩ : ∃ y, bs[j]? = some y := ⟨bs[j]'(by have := HKLL.out; omega), List.getElem?_eq_getElem _⟩
                have hcy := HC.out j y hy
                obtain ⟨y0, y1⟩ := HO.out y (List.mem_of_getElem? hy)
                have hst := pre_drop hy (k + 1 - (j + 1))
                obtain ⟨p0, p1⟩ := HF.out (j + 1) ht
                obtain ⟨q0, q1⟩ := HF.out j (by omega)
                rw [show k + 1 - j = k + 1 - (j + 1) + 1 by omega, hst] at q0 q1
                have hw : IntKind.u64.wrap (IntKind.u64.wrap (128 * preB (k + 1 - (j + 1)) (bs.drop (j + 1))) + y % 128) = preB (k + 1 - j) (bs.drop j) := by
                  rw [show k + 1 - j = k + 1 - (j + 1) + 1 by omega, hst, IntKind.wrap_u64, IntKind.wrap_u64]
                  omega
                have HW := Lib.hid hw
                obtain ⟨P, hP⟩ : ∃ P, preB (k + 1 - (j + 1)) (bs.drop (j + 1)) = P := ⟨_, rfl⟩
                rw [hP] at HW ⊢
                have ej : ((j + 1 : Nat) : Int) - 1 = j := by omega
                rw [ej]
                have hj0 : (0 : Int) ≤ j := by omega
                have hjn : (j : Int) < n := by omega
                clear hy hst p0 p1 q0 q1 hw hP ej
                go_wp2_with fail
                go_round
                case rel => exact ⟨j, by omega, rfl, by rw [HW.out]⟩
                case measure => simp [intOf] <;> omega
              · obtain rfl : t = 0 := by omega
                have hfin : preB (k + 1 - 0) (bs.drop 0) = sumB k bs := by rw [List.drop_zero]; exact pre_sum k bs HKLL.out
                have HFI := Lib.hid hfin
                obtain ⟨P, hP⟩ : ∃ P, preB (k + 1 - 0) (bs.drop 0) = P := ⟨_, rfl⟩
                rw [hP] at HFI ⊢
                clear hfin hP
                go_wp2_with fail
                go_ret3
                go_light
                refine ⟨?_, rfl⟩
                rw [HLK.out]
                exact ret3 HFI.out rfl rfl
          · have a3 : decide ((0 : Int) < (k : Int)) = false := by simp; omega
            have a4 : ((k : Int) == 9) = false := by simp; omega
            go_wp2_with fail
            go_loop [6, 7] (fun ns is => ∃ (t : Nat), t ≤ k + 1 ∧ is = .int .i64 ((t : Int) - 1) ∧ ns = .int .u64 (preB (k + 1 - t) (bs.drop t))) (fun _ is => (intOf is + 1).toNat)
            case atStart => exact ⟨k + 1, by omega, by congr 1; omega, by rw [Nat.sub_self]; rfl⟩
            case round =>
              obtain ⟨t, ht, rfl, rfl⟩ := hrel
              by_cases ht0 : 0 < t
              · obtain ⟨j, rfl⟩ : ∃ j, t = j + 1 := ⟨t - 1, by omega⟩
                obtain ⟨y, hy⟩ : ∃ y, bs[j]? = some y := ⟨bs[j]'(by have := HKLL.out; omega), List.getElem?_eq_getElem _⟩
                have hcy := HC.out j y hy
                obtain ⟨y0, y1⟩ := HO.out y (List.mem_of_getElem? hy)
                have hst := pre_drop hy (k + 1 - (j + 1))
                obtain ⟨p0, p1⟩ := HF.out (j + 1) ht
                obtain ⟨q0, q1⟩ := HF.out j (by omega)
                rw [show k + 1 - j = k + 1 - (j + 1) + 1 by omega, hst] at q0 q1
                have hw : IntKind.u64.wrap (IntKind.u64.wrap (128 * preB (k + 1 - (j + 1)) (bs.drop (j + 1))) + y % 128) = preB (k + 1 - j) (bs.drop j) := by
                  rw [show k + 1 - j = k + 1 - (j + 1) + 1 by omega, hst, IntKind.wrap_u64, IntKind.wrap_u64]
                  omega
                have HW := Lib.hid hw
                obtain ⟨P, hP⟩ : ∃ P, preB (k + 1 - (j + 1)) (bs.drop (j + 1)) = P := ⟨_, rfl⟩
                rw [hP] at HW ⊢
                have ej : ((j + 1 : Nat) : Int) - 1 = j := by omega
                rw [ej]
                have hj0 : (0 : Int) ≤ j := by omega
                have hjn : (j : Int) < n := by omega
                clear hy hst p0 p1 q0 q1 hw hP ej
                go_wp2_with fail
                go_round
                case rel => exact ⟨j, by omega, rfl, by rw [HW.out]⟩
                case measure => simp [intOf] <;> omega
              · obtain rfl : t = 0 := by omega
                have hfin : preB (k + 1 - 0) (bs.drop 0) = sumB k bs := by rw [List.drop_zero]; exact pre_sum k bs HKLL.out
                have HFI := Lib.hid hfin
                obtain ⟨P, hP⟩ : ∃ P, preB (k + 1 - 0) (bs.drop 0) = P := ⟨_, rfl⟩
                rw [hP] at HFI ⊢
                clear hfin hP
                go_wp2_with fail
                go_ret3
                go_light
                refine ⟨?_, rfl⟩
                rw [HLK.out]
                exact ret3 HFI.out rfl rfl
      · obtain rfl : k = m := by omega
        have HRUN := Lib.hid (run_end (bs := bs) (k := k) (by rw [HL.out]; exact HM.out.symm) HR.out)
        by_cases hk10 : k = 10
        · have HLK := Lib.hid (look_form HRUN.out (by omega) (.inl hk10))
          have hn10 : (10 : Int) ≤ n := by omega
          subst hk10
          clear hgo
          by_cases hnn : n = 10
          · subst hnn
            go_wp2_with fail
            go_ret3
            go_light
            exact ⟨by rw [HLK.out]; rfl, rfl⟩
          · have h1 : decide ((10 : Int) < (n : Int)) = true := by simp; omega
            have h2 : decide (10 < n) = true := by simp; omega
            have h3 : ((10 : Int) == (n : Int)) = false := by simp; omega
            have h4 : (10 : Int) < n := by omega
            go_wp2_with fail
            go_ret3
            go_light
            exact ⟨by rw [HLK.out]; rfl, rfl⟩
        · have HLK := Lib.hid (look_short HRUN.out (by rw [HL.out]; omega) (by omega))
          obtain rfl : k = n := by omega
          have h2 : decide ((k : Int) < 10) = true := by simp; omega
          have h3 : (k : Int) < 10 := by omega
          clear hgo
          go_wp2_with fail
          go_ret3
          go_light
          exact ⟨by rw [HLK.out]; rfl, rfl⟩
end Go.Proofs.YtbpmomedhdmloaaGreatDoor

/-! The document's reader. -/
namespace Go.Proofs.YtbpmomedhdmloaaGreatDoor
open Go.RowKit

/-- A reader by value, its bytes below block B. -/
def RvAt (w : World) (B : Nat) (v : Value) (s : Rd) : Prop :=
  ∃ (A : Option Addr) (n c : Nat) (bs : List Int) (at_ : Nat), v = .agg #[.slice A n c, .int .i64 (at_ : Int), .int .i64 s.err] ∧ Sl w B 1 A n (bs.map (.int .u8)) ∧ ByOk bs ∧ at_ ≤ n ∧ n ≤ c ∧ n ≤ 1073741824 ∧ bs.drop at_ = s.rest
theorem RvAt.below {w w' : World} {B : Nat} {v : Value} {s : Rd} (h : RvAt w B v s) (hb : Below B w w') : RvAt w' B v s := by
  obtain ⟨A, n, c, bs, k, h1, h2, h3⟩ := h
  exact ⟨A, n, c, bs, k, h1, h2.below hb, h3⟩
theorem RvAt.more {w : World} {B B' : Nat} {v : Value} {s : Rd} (h : RvAt w B v s) (hb : B ≤ B') : RvAt w B' v s := by
  obtain ⟨A, n, c, bs, k, h1, h2, h3⟩ := h
  exact ⟨A, n, c, bs, k, h1, h2.more hb, h3⟩
theorem RvAt.ok {w : World} {B : Nat} {v : Value} {s : Rd} (h : RvAt w B v s) : ByOk s.rest := by
  obtain ⟨A, n, c, bs, k, h1, h2, h3, _, _, _, h4⟩ := h
  rw [← h4]; exact h3.drop _
theorem RvAt.rest_le {w : World} {B : Nat} {v : Value} {s : Rd} (h : RvAt w B v s) : s.rest.length ≤ 1073741824 := by
  obtain ⟨A, n, c, bs, k, h1, h2, h3, _, _, hn, h4⟩ := h
  rw [← h4, List.length_drop, h2.length]; omega
theorem RvAt.new {w : World} {B : Nat} {A : Option Addr} {n c : Nat} {bs : List Int} (hs : Sl w B 1 A n (bs.map (.int .u8))) (ho : ByOk bs) (hn : n ≤ 1073741824) (hc : n ≤ c) : RvAt w B (.agg #[.slice A n c, .int .i64 0, .int .i64 0]) ⟨bs, 0⟩ :=
  ⟨A, n, c, bs, 0, rfl, hs, ho, by omega, hc, hn, rfl⟩

theorem rFail_any (w : World) (A : Option Addr) (n c : Nat) (k e1 e : Int) :
    Calls Tryz.prog 106 #[.agg #[.slice A n c, .int .i64 k, .int .i64 e1], .int .i64 e] w fun en w' => en = .returned (.agg #[.slice A n c, .int .i64 k, .int .i64 e]) ∧ Below w.heap.size w w' := by
  go_enter Tryz.func106, Tryz.ntmps106
  go_wp2_with fail
  exact bodyPost_ret (v := .agg #[.slice A n c, .int .i64 k, .int .i64 e]) (by simp [results, Tryz.results106, go_sem]) rfl ⟨rfl, (below_new w _).alloc (by simp) _⟩
theorem rEnd_any (w : World) (B : Nat) (v : Value) (s : Rd) (h : RvAt w B v s) : Calls Tryz.prog 71 #[v] w fun en w' => en = .returned (.int .i64 (endR s)) ∧ Below w.heap.size w w' := by
  obtain ⟨A, n, c, bs, k, rfl, h2, h3, h4, h5, h6, h7⟩ := h
  have hl := h2.length
  have hr : s.rest.length = n - k := by rw [← h7, List.length_drop, hl]
  by_cases he : s.err = 0
  · have he1 : (s.err == 0) = true := by simp [he]
    by_cases hn : s.rest = []
    · have HE : Hid (endR s = 0) := by show _ = _; rw [endR, if_pos he, if_pos hn]
      have hl : s.rest.length = 0 := by rw [hn]; rfl
      have hkn : decide ((k : Int) < n) = false := by simp; omega
      have hkn2 : decide (k < n) = false := by simp; omega
      have HER := Lib.hid he
      clear hn hl he hr h2 h7
      go_enter Tryz.func71, Tryz.ntmps71
      go_wp2_with fail
      go_ret
      exact ⟨by rw [HE.out, ← HER.out]; rfl, below_new _ _⟩
    · have HE : Hid (endR s = 5) := by show _ = _; rw [endR, if_pos he, if_neg hn]
      have hl : 0 < s.rest.length := List.length_pos_iff.2 hn
      have hkn : decide ((k : Int) < n) = true := by simp; omega
      have hkn2 : decide (k < n) = true := by simp; omega
      have hkn3 : k < n := by omega
      clear hn hl he hr h2 h7
      go_enter Tryz.func71, Tryz.ntmps71
      go_wp2_with fail
      go_ret
      exact ⟨by rw [HE.out]; rfl, below_new _ _⟩
  · have he1 : (s.err == 0) = false := by simp [he]
    have HE : Hid (endR s = s.err) := by show _ = _; rw [endR, if_neg he]
    clear he hr h2 h7
    go_enter Tryz.func71, Tryz.ntmps71
    go_wp2_with fail
    go_ret
    exact ⟨by rw [HE.out]; rfl, below_new _ _⟩

/-- What a read of a number hands back. -/
def RetRN (B : Nat) (p : Rd × Int) (w : World) (e : Ending) (w' : World) : Prop := ∃ v, e = .returned (.tuple #[v, .int .u64 p.2]) ∧ RvAt w' B v p.1 ∧ Below w.heap.size w w'
theorem RetRN.mk {w w' : World} {B : Nat} {p q : Rd × Int} {v : Value} (hq : p = q) (hv : RvAt w B v q.1) (hB : B ≤ w.heap.size) (hb : Below w.heap.size w w') : RetRN B p w (.returned (.tuple #[v, .int .u64 q.2])) w' := by
  subst hq; exact ⟨v, rfl, hv.below (hb.mono hB), hb⟩
set_option maxRecDepth 20000 in
theorem rRead_any (w : World) (B : Nat) (hB : B ≤ w.heap.size) (v : Value) (s : Rd) (h : RvAt w B v s) (most : Int) : Calls Tryz.prog 67 #[v, .int .u64 most] w (RetRN B (numR s most) w) := by
  have hv := h
  obtain ⟨A, n, c, bs, k, rfl, h2, h3, h4, h5, h6, h7⟩ := h
  have HV : Hid (∀ e, RvAt w B (.agg #[.slice A n c, .int .i64 (k : Int), .int .i64 e]) ⟨s.rest, e⟩) := fun e => ⟨A, n, c, bs, k, rfl, h2, h3, h4, h5, h6, h7⟩
  have hl := h2.length
  have hr : s.rest.length = n - k := by rw [← h7, List.length_drop, hl]
  have hk0 : (0 : Int) ≤ k := by omega
  have hkn : (k : Int) ≤ n := by omega
  obtain ⟨A', hA'⟩ : ∃ A', (if c = k then A else Option.map (fun x => x.add k) A) = A' := ⟨_, rfl⟩
  have hcut := run_cut 60 A n c k h4
  rw [hA'] at hcut
  have HSg : Hid (∀ W, Below w.heap.size w W → Sl W B 1 A' (n - k) (s.rest.map (.int .u8))) := fun W hW => by
    have := sl_cut (h2.below (hW.mono hB)) h5 h4
    rw [hA', h7] at this; exact this
  have HO : Hid (ByOk s.rest) := by show ByOk _; rw [← h7]; exact h3.drop k
  have H7 := Lib.hid h7; have HSL := Lib.hid h2; have HO3 := Lib.hid h3; have HE := Lib.hid (Eq.refl s.err); have HR := Lib.hid hr; have HVV := Lib.hid hv
  clear hA' h2 h3 h7 hl hr hv
  by_cases he : s.err = 0
  · have he1 : (s.err != 0) = false := by simp [he]
    by_cases hlk : (lookB s.rest).2.2 = 0
    · by_cases hm : (lookB s.rest).1 ≤ most
      · have HN := Lib.hid (num_yes he hlk hm)
        have hlp := look_pos hlk HO.out
        obtain ⟨V, hV⟩ : ∃ V, (lookB s.rest).1 = V := ⟨_, rfl⟩
        obtain ⟨S, hS⟩ : ∃ S, (lookB s.rest).2.1 = S := ⟨_, rfl⟩
        have HE0 := Lib.hid hlk; have HV1 := Lib.hid hV; have HS1 := Lib.hid hS; have HEE := Lib.hid he
        rw [hV] at hm
        rw [hS, HR.out] at hlp
        obtain ⟨_, _, hs1, hs2⟩ := hlp
        have hmm : decide (most < V) = false := by simp; omega
        have hks : IntKind.i64.wrap ((k : Int) + S) = (k : Int) + S := IntWalk.i64_in _ (by omega)
        have hSk : k + S ≤ n := by omega
        clear hlk hV hS he
        go_enter Tryz.func67, Tryz.ntmps67
        go_wp2_with fail
        refine (rnumber_any _ B A' (n - k) (c - k) s.rest HO.out (HSg.out _ ((below_new w _).alloc (by simp) _))).mono ?_
        rintro e w1 ⟨rfl, rfl⟩
        rw [HE0.out, HV1.out, HS1.out]
        go_wp2_with fail
        refine bodyPost_ret (v := .tuple #[.agg #[.slice A n c, .int .i64 ((k : Int) + S), .int .i64 s.err], .int .u64 V]) (by simp [results, Tryz.results67, go_sem]) rfl ?_
        refine RetRN.mk (p := numR s most) (q := (⟨s.rest.drop S, 0⟩, V)) (by rw [HN.out, HS1.out, HV1.out]) ?_ hB ((below_new w _).alloc (by simp) _)
        refine ⟨A, n, c, bs, k + S, ?_, HSL.out, HO3.out, hSk, h5, h6, by rw [← H7.out, List.drop_drop]⟩
        rw [HEE.out]
        exact congrArg (fun z : Int => Value.agg #[.slice A n c, .int .i64 z, .int .i64 0]) (by omega)
      · have HN := Lib.hid (num_range he hlk (Int.not_le.1 hm))
        obtain ⟨V, hV⟩ : ∃ V, (lookB s.rest).1 = V := ⟨_, rfl⟩
        have HE0 := Lib.hid hlk; have HV1 := Lib.hid hV
        rw [hV] at hm
        have hmm : decide (most < V) = true := by simp; omega
        have hmm1 : most < V := by omega
        clear hlk hV he
        go_enter Tryz.func67, Tryz.ntmps67
        go_wp2_with fail
        refine (rnumber_any _ B A' (n - k) (c - k) s.rest HO.out (HSg.out _ ((below_new w _).alloc (by simp) _))).mono ?_
        rintro e w1 ⟨rfl, rfl⟩
        rw [HE0.out, HV1.out]
        go_wp2_with fail
        refine (rFail_any _ A n c k s.err 2).mono ?_
        rintro e w1 ⟨rfl, hb1⟩
        obtain ⟨hc1, hf1⟩ := below_rules hb1
        have hz1 : w.heap.size + 1 < w1.heap.size := by have := hb1.size; simp at this; omega
        have HB1 := Lib.hid (below_then ((below_new w _).alloc (by simp) _) hb1)
        clear hb1
        go_wp2_with fail
        refine bodyPost_ret (v := .tuple #[.agg #[.slice A n c, .int .i64 (k : Int), .int .i64 2], .int .u64 0]) (by simp [results, Tryz.results67, go_sem, hc1]) rfl ?_
        exact RetRN.mk HN.out (HV.out 2) hB (((HB1.out.setCell (Nat.le_succ _) _).setCell (Nat.le_succ _) _).setCell (Nat.le_succ _) _)
    · have HN := Lib.hid (num_look he hlk most)
      obtain ⟨E, hE⟩ : ∃ E, (lookB s.rest).2.2 = E := ⟨_, rfl⟩
      have HE0 := Lib.hid hE
      rw [hE] at hlk HN
      have hlk1 : (E == 0) = false := by simp [hlk]
      have hlk2 : (E != 0) = true := by simp [hlk]
      clear hE he
      go_enter Tryz.func67, Tryz.ntmps67
      go_wp2_with fail
      refine (rnumber_any _ B A' (n - k) (c - k) s.rest HO.out (HSg.out _ ((below_new w _).alloc (by simp) _))).mono ?_
      rintro e w1 ⟨rfl, rfl⟩
      rw [HE0.out]
      go_wp2_with fail
      refine (rFail_any _ A n c k s.err E).mono ?_
      rintro e w1 ⟨rfl, hb1⟩
      obtain ⟨hc1, hf1⟩ := below_rules hb1
      have hz1 : w.heap.size + 1 < w1.heap.size := by have := hb1.size; simp at this; omega
      have HB1 := Lib.hid (below_then ((below_new w _).alloc (by simp) _) hb1)
      clear hb1
      go_wp2_with fail
      refine bodyPost_ret (v := .tuple #[.agg #[.slice A n c, .int .i64 (k : Int), .int .i64 E], .int .u64 0]) (by simp [results, Tryz.results67, go_sem, hc1]) rfl ?_
      exact RetRN.mk HN.out (HV.out E) hB (((HB1.out.setCell (Nat.le_succ _) _).setCell (Nat.le_succ _) _).setCell (Nat.le_succ _) _)
  · have he1 : (s.err != 0) = true := by simp [he]
    have HNB := Lib.hid (num_bad he most)
    go_enter Tryz.func67, Tryz.ntmps67
    go_wp2_with fail
    exact bodyPost_ret (v := .tuple #[.agg #[.slice A n c, .int .i64 (k : Int), .int .i64 s.err], .int .u64 0]) (by simp [results, Tryz.results67, go_sem]) rfl (RetRN.mk HNB.out HVV.out hB ((below_new w _).alloc (by simp) _))
end Go.Proofs.YtbpmomedhdmloaaGreatDoor

/-! The document's reader: bytes. -/
namespace Go.Proofs.YtbpmomedhdmloaaGreatDoor
open Go.RowKit

theorem cells3 {w : World} {g : Nat} {t : TypeId} {a b c : Value} (h : Bk w g t [a, b, c]) :
    w.cell? ⟨g, 0, none⟩ = some a ∧ w.cell? ⟨g, 1, none⟩ = some b ∧ w.cell? ⟨g, 2, none⟩ = some c := ⟨by rw [h.cell]; rfl, by rw [h.cell]; rfl, by rw [h.cell]; rfl⟩
theorem free3 {w : World} {g : Nat} {t : TypeId} {a b c : Value} (h : Bk w g t [a, b, c]) :
    w.frozen? ⟨g, 0, none⟩ = false ∧ w.frozen? ⟨g, 1, none⟩ = false ∧ w.frozen? ⟨g, 2, none⟩ = false := ⟨h.frozen 0, h.frozen 1, h.frozen 2⟩
/-- What a read of bytes hands back. -/
def RetRY (B : Nat) (p : Rd × List Int) (w : World) (e : Ending) (w' : World) : Prop :=
  ∃ v b, e = .returned (.tuple #[v, b]) ∧ RvAt w' B v p.1 ∧ w'.ownsRow w.heap.size 5 1 b p.2.length (p.2.map (.int .u8)) ∧ Below w.heap.size w w'
theorem RetRY.mk {w w' : World} {B : Nat} {p q : Rd × List Int} {v b : Value} (hq : p = q) (hv : RvAt w B v q.1) (hB : B ≤ w.heap.size) (ho : w'.ownsRow w.heap.size 5 1 b q.2.length (q.2.map (.int .u8))) (hb : Below w.heap.size w w') : RetRY B p w (.returned (.tuple #[v, b])) w' := by
  subst hq; exact ⟨v, b, rfl, hv.below (hb.mono hB), ho, hb⟩
set_option maxRecDepth 20000 in
theorem rSome_any (w : World) (B : Nat) (hB : B ≤ w.heap.size) (v : Value) (s : Rd) (h : RvAt w B v s) (most : Int) (hm0 : 0 ≤ most) (hm1 : most ≤ 1073741824) : Calls Tryz.prog 69 #[v, .int .i64 most] w (RetRY B (someR s most) w) := by
  have hv := h
  obtain ⟨A, n, c, bs, k, rfl, h2, h3, h4, h5, h6, h7⟩ := h
  have HV : Hid (∀ e, RvAt w B (.agg #[.slice A n c, .int .i64 (k : Int), .int .i64 e]) ⟨s.rest, e⟩) := fun e => ⟨A, n, c, bs, k, rfl, h2, h3, h4, h5, h6, h7⟩
  have HVV := Lib.hid hv
  have HO := Lib.hid hv.ok
  have hmx : IntKind.u64.wrap most = most := by rw [IntKind.wrap_u64]; omega
  have hm2 : decide (most < 0) = false := by simp; omega
  clear h2 h3 h7 hv
  by_cases he : s.err = 0
  · have he1 : (s.err != 0) = false := by simp [he]
    obtain ⟨M, hM⟩ : ∃ M : Int, 18446744073709551615 = M := ⟨_, rfl⟩
    have HC : Hid (Calls Tryz.prog 67 #[.agg #[.slice A n c, .int .i64 (k : Int), .int .i64 s.err], .int .u64 18446744073709551615] ((w.alloc (.cells #[.slice A n c, .int .i64 (k : Int), .int .i64 s.err] 114)).alloc (.cells #[.slice none 0 0, .int .i64 0, .int .i64 0] 114)) (RetRN B (numR s M) ((w.alloc (.cells #[.slice A n c, .int .i64 (k : Int), .int .i64 s.err] 114)).alloc (.cells #[.slice none 0 0, .int .i64 0, .int .i64 0] 114)))) := by
      rw [← hM]
      exact rRead_any _ B (by simp; omega) _ s (HVV.out.below (((below_new w _).alloc (by simp) _).mono hB)) _
    have HM := Lib.hid hM
    clear hM
    by_cases hlk : (lookB s.rest).2.2 = 0
    · have hlp := look_pos hlk HO.out
      have HNR : Hid (numR s M = (⟨s.rest.drop (lookB s.rest).2.1, 0⟩, (lookB s.rest).1)) := num_yes he hlk (by have := HM.out; omega)
      have hVM : (lookB s.rest).1 < 18446744073709551616 := hlp.2.1
      obtain ⟨V, hV⟩ : ∃ V : Nat, (lookB s.rest).1 = (V : Int) := ⟨(lookB s.rest).1.toNat, by omega⟩
      obtain ⟨S, hS⟩ : ∃ S, (lookB s.rest).2.1 = S := ⟨_, rfl⟩
      have HV1 := Lib.hid hV; have HS1 := Lib.hid hS; have HE0 := Lib.hid hlk; have HEE := Lib.hid he
      rw [hV, hS] at HNR
      rw [hS] at hlp
      obtain ⟨_, _, hs1, hs2⟩ := hlp
      have HO2 : Hid (ByOk (s.rest.drop S)) := HO.out.drop S
      obtain ⟨R, hR⟩ : ∃ R, s.rest.drop S = R := ⟨_, rfl⟩
      have hRl : R.length = s.rest.length - S := by rw [← hR, List.length_drop]
      rw [hR] at HNR HO2
      have HR := Lib.hid hR; have HRL := Lib.hid hRl
      by_cases hm : (V : Int) ≤ most
      · have hmm : decide (most < (V : Int)) = false := by simp; omega
        by_cases hle : V ≤ R.length
        · have HN := Lib.hid (some_yes he hlk (by rw [hV]; exact hm) (by rw [hV, hS, ← hRl]; omega))
          have hVR : V ≤ s.rest.length - S := by omega
          obtain ⟨i0, hi, hi0, hi1, hi2⟩ := info_parts Tryz.infoU8
          clear hV hS hlk he hR hRl hs2
          go_enter Tryz.func69, Tryz.ntmps69
          go_wp2_with fail
          refine HC.out.mono ?_
          rw [HNR.out]
          rintro e w1 ⟨v1, rfl, ⟨A2, n2, e2, bs2, k2, rfl, g2, g3, g4, g5, g6, g7⟩, hb1⟩
          have g7' : bs2.drop k2 = R := g7
          have hlen : n2 - k2 = R.length := by rw [← g7', List.length_drop, g2.length]
          have hv1 : IntKind.u64.wrap ((n2 : Int) - k2) = ((n2 - k2 : Nat) : Int) := by rw [IntKind.wrap_u64]; omega
          have hv2 : IntKind.i64.wrap ((n2 : Int) - k2) = ((n2 - k2 : Nat) : Int) := by rw [IntKind.wrap_i64]; omega
          have hv3 : (V : Int) ≤ ((n2 : Int) - k2) := by omega
          have hv4 : decide (((n2 : Int) - k2) < (V : Int)) = false := by simp; omega
          have hkV : k2 + V ≤ n2 := by omega
          have hv5 : IntKind.i64.wrap (V : Int) = V := IntWalk.i64_in _ (by omega)
          have hv6 : IntKind.i64.wrap ((k2 : Int) + V) = (k2 : Int) + V := IntWalk.i64_in _ (by omega)
          obtain ⟨A3, hA3⟩ : ∃ A3, (if e2 = k2 then A2 else Option.map (fun x => x.add k2) A2) = A3 := ⟨_, rfl⟩
          have hcut := run_cut2 60 A2 n2 e2 k2 (k2 + V) (by omega) hkV g5 Tryz.underlying60
          rw [hA3, show k2 + V - k2 = V by omega, show ((k2 + V : Nat) : Int) = (k2 : Int) + V by omega] at hcut
          have HSL : Hid (Sl w1 B 1 A3 V ((R.take V).map (.int .u8))) := by
            have := (sl_cut g2 g5 g4).front (m := V) (by omega)
            rw [hA3, g7'] at this; exact this
          have HG2 := Lib.hid g2; have HG3 := Lib.hid g3; have HG7 := Lib.hid g7'
          have HTL : Hid ((R.take V).length = V) := by show _ = _; rw [List.length_take]; omega
          have k1 := ((Bk.new w 114 #[.slice A n c, .int .i64 (k : Int), .int .i64 s.err]).alloc (.cells #[.slice none 0 0, .int .i64 0, .int .i64 0] 114)).later hb1
          have z1 := (Bk.at_ (g := w.heap.size + 1) (w.alloc (.cells #[.slice A n c, .int .i64 (k : Int), .int .i64 s.err] 114)) 114 #[.slice none 0 0, .int .i64 0, .int .i64 0] (by simp) rfl).later hb1
          obtain ⟨c0, c1, c2⟩ := cells3 k1
          obtain ⟨f0, f1, f2⟩ := free3 k1
          obtain ⟨y0, y1, y2⟩ := cells3 z1
          obtain ⟨yf0, yf1, yf2⟩ := free3 z1
          have l0 := k1.lt
          have l1 := z1.lt
          have HK1 := Lib.hid k1; have HZ1 := Lib.hid z1
          have HB1 := Lib.hid (below_then ((below_new w _).alloc (by simp) _) hb1)
          have hB1s := HB1.out.size
          clear hb1 k1 z1
          clear g2 g3 g7 g7' hlen hA3
          have HOW := Lib.hid (own_empty (w1.alloc (.cells #[.slice A2 n2 e2, .int .i64 (k2 : Int), .int .i64 0] 114)) 5 1 (w1.heap.size + 1) (by simp))
          have hb2 : Below w1.heap.size w1 ((w1.alloc (.cells #[.slice A2 n2 e2, .int .i64 (k2 : Int), .int .i64 0] 114)).alloc (.cells #[] 5)) := (below_new w1 _).alloc (by simp) _
          have HX2 := Lib.hid ((Bk.new w1 114 #[.slice A2 n2 e2, .int .i64 (k2 : Int), .int .i64 0]).alloc (.cells #[] 5))
          have HB2 := Lib.hid hb2
          have HBw : B ≤ w1.heap.size := by have := hB1s; omega
          have HS2 := Lib.hid (HSL.out.below (hb2.mono HBw))
          clear hb2
          go_wp2_with (at_builtin; refine wpList_app _ rfl (.tmp 44) (.tmp 54) 60 rfl (w1.heap.size + 1) 5 i0 (.int .u8 0) 1 1 Tryz.underlying60 hi hi0 hi1 hi2 rfl (by decide) _ 0 [] (by simp [Act.eval]) HOW.out _ _ V _ ((R.take V).map (.int .u8)) rfl HS2.out (ints_one _ _) (by unfold maxLen; omega) (by omega) (by simp) ?_; intro v3 w3 hown3 hg3 hat3; have hb3 := grown_below HB2.out HOW.out hg3 (Nat.le_succ _) (by simp; omega); have hbx := (Below.refl (w1.heap.size + 1) _).grown hg3 (by simp) (fun q hq => (HOW.out.lt q hq).1); obtain ⟨A4, c4, rfl⟩ := own_form hown3; have HOW3 := Lib.hid hown3; have HB3 := Lib.hid hb3; have kx := HX2.out.below hbx (Nat.lt_succ_self _); have HX3 := Lib.hid kx; obtain ⟨x0, x1, x2⟩ := cells3 kx; obtain ⟨xf0, xf1, xf2⟩ := free3 kx; have lx := kx.lt; obtain ⟨z0, z1, z2⟩ := cells3 (HZ1.out.later hb3); obtain ⟨zf0, zf1, zf2⟩ := free3 (HZ1.out.later hb3); have lz := (HZ1.out.later hb3).lt; clear hown3 hg3 hat3 hb3 kx hbx y0 y1 y2 yf0 yf1 yf2 c0 c1 c2 f0 f1 f2)
          have HOF := Lib.hid (ownsRow_setCell_below (ownsRow_setCell_below (ownsRow_setCell_below (ownsRow_setCell_below HOW3.out (a := ⟨w1.heap.size, 1, none⟩) (Nat.lt_succ_self _) (.int .i64 ((k2 : Int) + V))) (a := ⟨w.heap.size + 1, 0, none⟩) (show w.heap.size + 1 < w1.heap.size + 1 by omega) (.slice A2 n2 e2)) (a := ⟨w.heap.size + 1, 1, none⟩) (show w.heap.size + 1 < w1.heap.size + 1 by omega) (.int .i64 ((k2 : Int) + V))) (a := ⟨w.heap.size + 1, 2, none⟩) (show w.heap.size + 1 < w1.heap.size + 1 by omega) (.int .i64 0))
          have HBF := Lib.hid (((((below_then HB1.out HB3.out).setCell (p := ⟨w1.heap.size, 1, none⟩) (show w.heap.size ≤ w1.heap.size by omega) (.int .i64 ((k2 : Int) + V))).setCell (p := ⟨w.heap.size + 1, 0, none⟩) (Nat.le_succ _) (.slice A2 n2 e2)).setCell (p := ⟨w.heap.size + 1, 1, none⟩) (Nat.le_succ _) (.int .i64 ((k2 : Int) + V))).setCell (p := ⟨w.heap.size + 1, 2, none⟩) (Nat.le_succ _) (.int .i64 0))
          refine bodyPost_ret (v := .tuple #[.agg #[.slice A2 n2 e2, .int .i64 ((k2 : Int) + V), .int .i64 0], .slice A4 V c4]) (by simp [results, Tryz.results69, go_sem, z0, z1, z2]) rfl ?_
          refine ⟨_, _, rfl, ?_, ?_, HBF.out⟩
          · rw [HN.out]
            refine ⟨A2, n2, e2, bs2, k2 + V, ?_, ?_, HG3.out, hkV, g5, g6, ?_⟩
            · exact congrArg (fun z : Int => Value.agg #[.slice A2 n2 e2, .int .i64 z, .int .i64 0]) (by omega)
            · exact HG2.out.below ((((((HB3.out.mono HBw).setCell (p := ⟨w1.heap.size, 1, none⟩) HBw (.int .i64 ((k2 : Int) + V))).setCell (p := ⟨w.heap.size + 1, 0, none⟩) (Nat.le_succ_of_le hB) (.slice A2 n2 e2)).setCell (p := ⟨w.heap.size + 1, 1, none⟩) (Nat.le_succ_of_le hB) (.int .i64 ((k2 : Int) + V))).setCell (p := ⟨w.heap.size + 1, 2, none⟩) (Nat.le_succ_of_le hB) (.int .i64 0)))
            · rw [HS1.out, HV1.out, HR.out, Int.toNat_natCast, ← HG7.out, List.drop_drop]
          · rw [HN.out]
            simp only [HS1.out, HV1.out, HR.out, Int.toNat_natCast]
            rw [HTL.out]
            have := HOF.out
            simp only [Nat.zero_add, List.nil_append] at this
            exact own_base this (by omega)
        · have HN := Lib.hid (some_short he hlk (by rw [hV]; exact hm) (by rw [hV, hS, ← hRl]; omega))
          clear hV hS hlk he hR hRl hs2
          go_enter Tryz.func69, Tryz.ntmps69
          go_wp2_with fail
          refine HC.out.mono ?_
          rw [HNR.out]
          rintro e w1 ⟨v1, rfl, ⟨A2, n2, e2, bs2, k2, rfl, g2, g3, g4, g5, g6, g7⟩, hb1⟩
          have g7' : bs2.drop k2 = R := g7
          have hlen : n2 - k2 = R.length := by rw [← g7', List.length_drop, g2.length]
          have hv1 : IntKind.u64.wrap ((n2 : Int) - k2) = ((n2 - k2 : Nat) : Int) := by rw [IntKind.wrap_u64]; omega
          have hv2 : IntKind.i64.wrap ((n2 : Int) - k2) = ((n2 - k2 : Nat) : Int) := by rw [IntKind.wrap_i64]; omega
          have hv3 : ((n2 : Int) - k2) < V := by omega
          have hv4 : decide (((n2 : Int) - k2) < (V : Int)) = true := by simp; omega
          have k1 := ((Bk.new w 114 #[.slice A n c, .int .i64 (k : Int), .int .i64 s.err]).alloc (.cells #[.slice none 0 0, .int .i64 0, .int .i64 0] 114)).later hb1
          have z1 := (Bk.at_ (g := w.heap.size + 1) (w.alloc (.cells #[.slice A n c, .int .i64 (k : Int), .int .i64 s.err] 114)) 114 #[.slice none 0 0, .int .i64 0, .int .i64 0] (by simp) rfl).later hb1
          obtain ⟨c0, c1, c2⟩ := cells3 k1
          obtain ⟨f0, f1, f2⟩ := free3 k1
          obtain ⟨y0, y1, y2⟩ := cells3 z1
          obtain ⟨yf0, yf1, yf2⟩ := free3 z1
          have l0 := k1.lt
          have l1 := z1.lt
          have HK1 := Lib.hid k1; have HZ1 := Lib.hid z1
          have HB1 := Lib.hid (below_then ((below_new w _).alloc (by simp) _) hb1)
          have hB1s := HB1.out.size
          clear hb1 k1 z1
          clear g2 g7 g7' hlen
          go_wp2_with fail
          refine (rFail_any _ A n c k s.err 4).mono ?_
          rintro e w9 ⟨rfl, hb9⟩
          have k9 := (HK1.out.alloc (.cells #[.slice A2 n2 e2, .int .i64 (k2 : Int), .int .i64 0] 114)).later hb9
          have z9 := (HZ1.out.alloc (.cells #[.slice A2 n2 e2, .int .i64 (k2 : Int), .int .i64 0] 114)).later hb9
          obtain ⟨p0, p1, p2⟩ := cells3 z9
          obtain ⟨q0, q1, q2⟩ := free3 z9
          have l9 := z9.lt
          have HB9 := Lib.hid (below_then (below_then HB1.out (below_new w1 (.cells #[.slice A2 n2 e2, .int .i64 (k2 : Int), .int .i64 0] 114))) hb9)
          clear hb9 k9 z9 c0 c1 c2 f0 f1 f2 y0 y1 y2 yf0 yf1 yf2
          go_wp2_with fail
          refine bodyPost_ret (v := .tuple #[.agg #[.slice A n c, .int .i64 (k : Int), .int .i64 4], .slice none 0 0]) (by simp [results, Tryz.results69, go_sem, p0, p1, p2]) rfl ?_
          exact RetRY.mk HN.out (HV.out 4) hB (World.ownsRow_nil _ _ _ _) (((HB9.out.setCell (Nat.le_succ _) _).setCell (Nat.le_succ _) _).setCell (Nat.le_succ _) _)
      · have HN := Lib.hid (some_range (most := most) he hlk (by rw [hV]; omega))
        have hmm : decide (most < (V : Int)) = true := by simp; omega
        have hmm2 : most < (V : Int) := by omega
        clear hV hS hlk he hR hRl
        go_enter Tryz.func69, Tryz.ntmps69
        go_wp2_with fail
        refine HC.out.mono ?_
        rw [HNR.out]
        rintro e w1 ⟨v1, rfl, ⟨A2, n2, e2, bs2, k2, rfl, g2⟩, hb1⟩
        have k1 := ((Bk.new w 114 #[.slice A n c, .int .i64 (k : Int), .int .i64 s.err]).alloc (.cells #[.slice none 0 0, .int .i64 0, .int .i64 0] 114)).later hb1
        have z1 := (Bk.at_ (g := w.heap.size + 1) (w.alloc (.cells #[.slice A n c, .int .i64 (k : Int), .int .i64 s.err] 114)) 114 #[.slice none 0 0, .int .i64 0, .int .i64 0] (by simp) rfl).later hb1
        obtain ⟨c0, c1, c2⟩ := cells3 k1
        obtain ⟨f0, f1, f2⟩ := free3 k1
        obtain ⟨y0, y1, y2⟩ := cells3 z1
        obtain ⟨yf0, yf1, yf2⟩ := free3 z1
        have l0 := k1.lt
        have l1 := z1.lt
        have HK1 := Lib.hid k1; have HZ1 := Lib.hid z1
        have HB1 := Lib.hid (below_then ((below_new w _).alloc (by simp) _) hb1)
        have hB1s := HB1.out.size
        clear hb1 k1 z1
        clear g2
        go_wp2_with fail
        refine (rFail_any _ A n c k s.err 2).mono ?_
        rintro e w9 ⟨rfl, hb9⟩
        have k9 := (HK1.out.alloc (.cells #[.slice A2 n2 e2, .int .i64 (k2 : Int), .int .i64 0] 114)).later hb9
        have z9 := (HZ1.out.alloc (.cells #[.slice A2 n2 e2, .int .i64 (k2 : Int), .int .i64 0] 114)).later hb9
        obtain ⟨p0, p1, p2⟩ := cells3 z9
        obtain ⟨q0, q1, q2⟩ := free3 z9
        have l9 := z9.lt
        have HB9 := Lib.hid (below_then (below_then HB1.out (below_new w1 (.cells #[.slice A2 n2 e2, .int .i64 (k2 : Int), .int .i64 0] 114))) hb9)
        clear hb9 k9 z9 c0 c1 c2 f0 f1 f2 y0 y1 y2 yf0 yf1 yf2
        go_wp2_with fail
        refine bodyPost_ret (v := .tuple #[.agg #[.slice A n c, .int .i64 (k : Int), .int .i64 2], .slice none 0 0]) (by simp [results, Tryz.results69, go_sem, p0, p1, p2]) rfl ?_
        exact RetRY.mk HN.out (HV.out 2) hB (World.ownsRow_nil _ _ _ _) (((HB9.out.setCell (Nat.le_succ _) _).setCell (Nat.le_succ _) _).setCell (Nat.le_succ _) _)
    · have HN := Lib.hid (some_look he hlk most)
      obtain ⟨E, hE⟩ : ∃ E, (lookB s.rest).2.2 = E := ⟨_, rfl⟩
      have HNR : Hid (numR s M = (⟨s.rest, E⟩, 0)) := by show _ = _; rw [← hE]; exact num_look he hlk M
      rw [hE] at hlk HN
      have hlk2 : (E != 0) = true := by simp [hlk]
      clear hE he
      go_enter Tryz.func69, Tryz.ntmps69
      go_wp2_with fail
      refine HC.out.mono ?_
      rw [HNR.out]
      rintro e w1 ⟨v1, rfl, ⟨A2, n2, e2, bs2, k2, rfl, g2⟩, hb1⟩
      have k1 := ((Bk.new w 114 #[.slice A n c, .int .i64 (k : Int), .int .i64 s.err]).alloc (.cells #[.slice none 0 0, .int .i64 0, .int .i64 0] 114)).later hb1
      have z1 := (Bk.at_ (g := w.heap.size + 1) (w.alloc (.cells #[.slice A n c, .int .i64 (k : Int), .int .i64 s.err] 114)) 114 #[.slice none 0 0, .int .i64 0, .int .i64 0] (by simp) rfl).later hb1
      obtain ⟨c0, c1, c2⟩ := cells3 k1
      obtain ⟨f0, f1, f2⟩ := free3 k1
      obtain ⟨y0, y1, y2⟩ := cells3 z1
      obtain ⟨yf0, yf1, yf2⟩ := free3 z1
      have l0 := k1.lt
      have l1 := z1.lt
      have HK1 := Lib.hid k1; have HZ1 := Lib.hid z1
      have HB1 := Lib.hid (below_then ((below_new w _).alloc (by simp) _) hb1)
      have hB1s := HB1.out.size
      clear hb1 k1 z1
      clear g2
      go_wp2_with fail
      refine (rFail_any _ A n c k s.err E).mono ?_
      rintro e w9 ⟨rfl, hb9⟩
      have k9 := (HK1.out.alloc (.cells #[.slice A2 n2 e2, .int .i64 (k2 : Int), .int .i64 E] 114)).later hb9
      have z9 := (HZ1.out.alloc (.cells #[.slice A2 n2 e2, .int .i64 (k2 : Int), .int .i64 E] 114)).later hb9
      obtain ⟨p0, p1, p2⟩ := cells3 z9
      obtain ⟨q0, q1, q2⟩ := free3 z9
      have l9 := z9.lt
      have HB9 := Lib.hid (below_then (below_then HB1.out (below_new w1 (.cells #[.slice A2 n2 e2, .int .i64 (k2 : Int), .int .i64 E] 114))) hb9)
      clear hb9 k9 z9 c0 c1 c2 f0 f1 f2 y0 y1 y2 yf0 yf1 yf2
      go_wp2_with fail
      refine bodyPost_ret (v := .tuple #[.agg #[.slice A n c, .int .i64 (k : Int), .int .i64 E], .slice none 0 0]) (by simp [results, Tryz.results69, go_sem, p0, p1, p2]) rfl ?_
      exact RetRY.mk HN.out (HV.out E) hB (World.ownsRow_nil _ _ _ _) (((HB9.out.setCell (Nat.le_succ _) _).setCell (Nat.le_succ _) _).setCell (Nat.le_succ _) _)
  · have he1 : (s.err != 0) = true := by simp [he]
    have HNB := Lib.hid (some_bad he most)
    go_enter Tryz.func69, Tryz.ntmps69
    go_wp2_with fail
    exact bodyPost_ret (v := .tuple #[.agg #[.slice A n c, .int .i64 (k : Int), .int .i64 s.err], .slice none 0 0]) (by simp [results, Tryz.results69, go_sem]) rfl (RetRY.mk HNB.out HVV.out hB (World.ownsRow_nil _ _ _ _) ((below_new w _).alloc (by simp) _))
end Go.Proofs.YtbpmomedhdmloaaGreatDoor

/-! Bytes as strings, compared. -/
namespace Go.Proofs.YtbpmomedhdmloaaGreatDoor
open Go.RowKit

def strOf (bs : List Int) : ByteArray := ⟨(bs.map fun b => UInt8.ofNat b.toNat).toArray⟩
theorem strOf_list (bs : List Int) : (strOf bs).toList = bs.map fun b => UInt8.ofNat b.toNat := by rw [ByteArray.toList_eq]; simp [strOf]
theorem strOf_inj : ∀ (xs ys : List Int), ByOk xs → ByOk ys → (xs.map fun b => UInt8.ofNat b.toNat) = (ys.map fun b => UInt8.ofNat b.toNat) → xs = ys
  | [], [], _, _, _ => rfl
  | [], _ :: _, _, _, h => by simp at h
  | _ :: _, [], _, _, h => by simp at h
  | x :: xs, y :: ys, hx, hy, h => by
    rw [List.map_cons, List.map_cons, List.cons.injEq] at h
    obtain ⟨x0, x1⟩ := hx x (by simp)
    obtain ⟨y0, y1⟩ := hy y (by simp)
    have h1 := congrArg UInt8.toNat h.1
    have e1 : (UInt8.ofNat x.toNat).toNat = x.toNat := UInt8.toNat_ofNat_of_lt' (by show x.toNat < 256; omega)
    have e2 : (UInt8.ofNat y.toNat).toNat = y.toNat := UInt8.toNat_ofNat_of_lt' (by show y.toNat < 256; omega)
    rw [e1, e2] at h1
    rw [strOf_inj xs ys hx.tail hy.tail h.2, show x = y by omega]
theorem strOf_beq (xs ys : List Int) (hx : ByOk xs) (hy : ByOk ys) : ((strOf xs).toList == (strOf ys).toList) = eqL xs ys := by
  rw [strOf_list, strOf_list, eqL]
  by_cases h : xs = ys
  · subst h; simp
  · rw [decide_eq_false h]
    exact beq_false_of_ne fun e => h (strOf_inj xs ys hx hy e)
theorem fold_str (bs : List Int) : ∀ s : ByteArray, bs.foldl (fun r n => r.push (UInt8.ofNat n.toNat)) s = ⟨(s.data.toList ++ bs.map fun b => UInt8.ofNat b.toNat).toArray⟩ := by
  induction bs with
  | nil => intro s; simp
  | cons b bs ih =>
    intro s
    rw [List.foldl_cons, ih]
    simp [ByteArray.push]
theorem conv_any (w : World) (B : Nat) (A : Option Addr) (n c : Nat) (bs : List Int) (hs : Sl w B 1 A n (bs.map (.int .u8))) :
    (convert 60 9 (.slice A n c)).run Tryz.prog w = .ok (.string (strOf bs)) w := by
  rw [run_convert_bytes_string _ _ _ 5 _ _ _ Tryz.underlying60 Tryz.underlying5 Tryz.underlying9]
  have hl := hs.length
  cases A with
  | none =>
    have h0 : n = 0 := by
      rcases Nat.eq_zero_or_pos n with h0 | h0
      · exact h0
      · obtain ⟨_, h, _⟩ := hs.mem h0; cases h
    obtain rfl : bs = [] := List.eq_nil_of_length_eq_zero (by omega)
    rfl
  | some ad =>
    have hc : ∀ (j : Nat) (u : Value), (bs.map (Value.int .u8))[j]? = some u → w.cell? (ad.add j) = some u := fun j u hu => by
      have hj : j < n := by have := (List.getElem?_eq_some_iff.1 hu).1; simp [hl] at this; exact this
      obtain ⟨ad', e, _, hcc⟩ := hs.mem (by omega)
      injection e with e; subst e
      exact hcc j u hu
    have h2 := run_loadCells_list (P := Tryz.prog) w ad (bs.map (Value.int .u8)) hc
    rw [List.length_map, hl] at h2
    rw [run_bytesToString (P := Tryz.prog) w ad n c bs h2, fold_str]
    rfl

set_option maxRecDepth 20000 in
theorem rBytesEq_any (w : World) (A A' : Option Addr) (n n' c c' : Nat) (xs ys : List Int) (hs : Sl w w.heap.size 1 A n (xs.map (.int .u8))) (hs' : Sl w w.heap.size 1 A' n' (ys.map (.int .u8))) :
    Calls Tryz.prog 107 #[.slice A n c, .slice A' n' c'] w fun e w' => e = .returned (.bool (eqL xs ys)) ∧ ∃ q, w' = w.drewN q := by
  have hl := hs.length
  have hl' := hs'.length
  have hn := hs.le
  by_cases hnn : n = n'
  · subst hnn
    have HS := Lib.hid hs; have HS' := Lib.hid hs'; have HL := Lib.hid hl; have HL' := Lib.hid hl'
    clear hs hs' hl hl'
    go_enter Tryz.func107, Tryz.ntmps107
    go_wp2_with fail
    go_loopw [5] (fun is wr => ∃ (i q : Nat), i ≤ n ∧ is = .int .i64 i ∧ wr = w.drewN q ∧ Hid (xs.take i = ys.take i)) (fun is _ => n - (intOf is).toNat)
    case atStart => exact ⟨0, 0, by omega, rfl, rfl, by show _ = _; simp⟩
    case round =>
      obtain ⟨i, q, hi, rfl, rfl, HT⟩ := hrel
      by_cases hlt : i < n
      · obtain ⟨b, o, rfl, hbb, hcc⟩ := HS.out.spot (by omega) (by omega)
        obtain ⟨b', o', rfl, hbb', hcc'⟩ := HS'.out.spot (by omega) (by omega)
        obtain ⟨x, hx⟩ : ∃ x, xs[i]? = some x := ⟨xs[i]'(by rw [HL.out]; exact hlt), List.getElem?_eq_getElem _⟩
        obtain ⟨y, hy⟩ : ∃ y, ys[i]? = some y := ⟨ys[i]'(by rw [HL'.out]; exact hlt), List.getElem?_eq_getElem _⟩
        have c0 : w.cell? ⟨b, o + i, none⟩ = some (.int .u8 x) := hcc i _ (by rw [List.getElem?_map, hx]; rfl)
        have c1 : w.cell? ⟨b', o' + i, none⟩ = some (.int .u8 y) := hcc' i _ (by rw [List.getElem?_map, hy]; rfl)
        have hi1 : (i : Int) < n := by omega
        have hi0 : (0 : Int) ≤ i := by omega
        have HX := Lib.hid hx; have HY := Lib.hid hy
        clear hx hy hcc hcc'
        by_cases hab : x = y
        · have hE : (x != y) = false := by simp [hab]
          have HT2 : Hid (xs.take (i + 1) = ys.take (i + 1)) := by
            show _ = _
            rw [take_snoc HX.out, take_snoc HY.out, HT.out, hab]
          clear hab
          go_wp2_with fail
          go_quiet (fail)
          go_wp2_with fail
          go_roundw
          case rel => exact ⟨i + 1, _, by omega, by go_num, rfl, HT2⟩
          case measure => simp [intOf]; omega
        · have hE : (x != y) = true := by simp [hab]
          have HF : Hid (eqL xs ys = false) := by
            show _ = _
            rw [eqL]
            refine decide_eq_false fun h => ?_
            have h1 := HX.out; have h2 := HY.out
            rw [h, h2] at h1
            exact hab (Option.some.inj h1).symm
          clear hab
          go_wp2_with fail
          go_quiet (fail)
          go_wp2_with fail
          go_ret
          exact ⟨by rw [HF.out]; rfl, _, World.drewN_drewN _ _ _⟩
      · obtain rfl : i = n := by omega
        have hT : eqL xs ys = true := by
          have := HT.out
          rw [List.take_of_length_le (by rw [HL.out]; omega), List.take_of_length_le (by rw [HL'.out]; omega)] at this
          rw [eqL, decide_eq_true this]
        have HTT := Lib.hid hT
        clear hT
        go_wp2_with fail
        go_ret
        go_light
        exact ⟨by rw [HTT.out]; rfl, _, rfl⟩
  · have HF : Hid (eqL xs ys = false) := by
      show _ = _
      rw [eqL]
      refine decide_eq_false fun h => ?_
      rw [h] at hl; omega
    have h1 : decide ((n : Int) = n') = false := by simp; omega
    clear hs hs' hl hl'
    go_enter Tryz.func107, Tryz.ntmps107
    go_wp2_with fail
    go_ret
    exact ⟨by rw [HF.out]; rfl, 0, rfl⟩
end Go.Proofs.YtbpmomedhdmloaaGreatDoor
