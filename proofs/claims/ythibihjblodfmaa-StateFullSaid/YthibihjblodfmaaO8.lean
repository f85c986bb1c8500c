/- The document's numbers and bytes. -/
import Derived.Test.YthibihjblodfmaaO5
import Derived.Test.YthibihjblodfmaaO3
namespace Go.Proofs.Ythibihjblodfmaa
open Go.RowKit

set_option maxRecDepth 20000 in
theorem rNum_any (w : World) (n : Nat) (hn : Hid (n < 18446744073709551616)) :
    Calls Try.prog 67 #[.int .u64 n] w (RetB w.heap.size (numB n) w) := by
  obtain ⟨i0, hi, hi0, hi1, hi2⟩ := info_parts Try.infoU8
  have HN := hn
  clear hn
  go_enter Try.func67, Try.ntmps67
  go_wp2_with fail
  go_loopw [0, 3] (fun ns vs wr => ∃ (done : List Int) (f m : Nat), f + done.length = 9 ∧ ns = .int .u64 m ∧ Hid (m < 128 ^ (f + 1)) ∧ Hid (m < 18446744073709551616) ∧ Hid (done ++ numF f m = numB n) ∧ Hid (wr.ownsRow w.heap.size 5 1 vs done.length (done.map (.int .u8))) ∧ Hid (Below w.heap.size w wr)) (fun ns _ _ => (intOf ns).toNat)
  case atStart => exact ⟨[], 9, n, rfl, rfl, (by have := HN.out; show n < 128 ^ 10; omega), HN.out, by show [] ++ numF 9 n = numB n; rfl, World.ownsRow_nil _ _ _ _, Below.refl _ _⟩
  case round =>
    obtain ⟨done, f, m, hf, rfl, HM, HM2, HD, HOW, HB⟩ := hrel
    have hfd : done.length ≤ 9 := by omega
    obtain ⟨L, hL⟩ : ∃ L, done.length = L := ⟨_, rfl⟩
    rw [hL] at HOW hfd
    have HL := Lib.hid hL
    have hsz := HB.out.size
    clear hL
    by_cases hlt : 128 ≤ m
    · have hm1 : decide ((128 : Int) ≤ (m : Int)) = true := by simp; omega
      have hm2 : (128 : Int) ≤ (m : Int) := by omega
      obtain ⟨f', rfl⟩ : ∃ f', f = f' + 1 := ⟨f - 1, by rcases Nat.eq_zero_or_pos f with rfl | h; · have := HM.out; omega
                                                        · omega⟩
      have HX : Hid ((128 : Int) + (m : Int) % 128 = ((m % 128 + 128 : Nat) : Int)) := by show _ = _; omega
      have hw1 : IntKind.u64.wrap (128 + (m : Int) % 128) = 128 + (m : Int) % 128 := by rw [IntKind.wrap_u64]; omega
      have hw2 : IntKind.u64.wrap ((m : Int).tmod 128) = (m : Int) % 128 := by rw [IntKind.wrap_u64, Int.tmod_eq_emod_of_nonneg (by omega)]; omega
      have hw3 : IntKind.u64.wrap ((m : Int) / 128) = (m : Int) / 128 := by have := HM2.out; rw [IntKind.wrap_u64]; omega
      go_wp2_with (at_builtin; refine wpList_app _ rfl (.tmp 6) (.tmp 11) 23 rfl w.heap.size 5 i0 (.int .u8 0) 1 1 Try.underlying23 hi hi0 hi1 hi2 rfl (by decide) u3 L (done.map (.int .u8)) rfl (HOW.out.alloc _) _ _ 1 1 [.int .u8 (128 + (m : Int) % 128)] rfl (sl_new wr #[.int .u8 (128 + (m : Int) % 128)] 5 1 1 rfl (by omega)) (by simp [Value.oneCell']) (by unfold maxLen; omega) (by omega) (by simp; omega) ?_; intro v1 w3 hown1 hg1 hat1; have hb3 := grown_below (HB.out.alloc hsz (.cells #[.int .u8 (128 + (m : Int) % 128)] 5)) (HOW.out.alloc _) hg1 (Nat.le_refl _) (by simp; omega); have HO3 := Lib.hid hown1; have HB3 := Lib.hid hb3; clear hown1 hg1 hat1 hb3)
      go_roundw
      case rel =>
        refine ⟨done ++ [((m % 128 + 128 : Nat) : Int)], f', m / 128, by have := HL.out; simp; omega, by go_num, ?_, ?_, ?_, ?_, HB3⟩
        · have := HM.out
          show _ < _
          exact Nat.div_lt_of_lt_mul (by rw [Nat.pow_succ, Nat.mul_comm] at this; exact this)
        · have := HM2.out; show _ < _; omega
        · show _ = _
          rw [← HD.out, numF_big hlt, List.append_assoc]; rfl
        · have := HO3.out
          rw [HX.out] at this
          show World.ownsRow _ _ _ _ _ _ _
          rw [List.length_append, List.map_append, HL.out]
          exact this
      case measure => simp [intOf]; omega
    · have hm1 : decide ((128 : Int) ≤ (m : Int)) = false := by simp; omega
      have hm2 : (m : Int) < 128 := by omega
      have hfin : done ++ [(m : Int)] = numB n := by rw [← HD.out, numF_small (by omega)]
      have HF := Lib.hid hfin
      clear hfin
      go_wp2_with (at_builtin; refine wpList_app _ rfl (.tmp 15) (.tmp 18) 23 rfl w.heap.size 5 i0 (.int .u8 0) 1 1 Try.underlying23 hi hi0 hi1 hi2 rfl (by decide) u3 L (done.map (.int .u8)) rfl (HOW.out.alloc _) _ _ 1 1 [.int .u8 (m : Int)] rfl (sl_new wr #[.int .u8 (m : Int)] 5 1 1 rfl (by omega)) (by simp [Value.oneCell']) (by unfold maxLen; omega) (by omega) (by simp; omega) ?_; intro v1 w3 hown1 hg1 hat1; have hb3 := grown_below (HB.out.alloc hsz (.cells #[.int .u8 (m : Int)] 5)) (HOW.out.alloc _) hg1 (Nat.le_refl _) (by simp; omega); have HO3 := Lib.hid hown1; have HB3 := Lib.hid hb3; clear hown1 hg1 hat1 hb3)
      go_ret
      refine ⟨_, rfl, ?_, HB3.out⟩
      have := HO3.out
      rw [← HF.out, List.length_append, List.map_append, HL.out]
      exact this
theorem rBytes_any (w : World) (A : Option Addr) (n c : Nat) (bs : List Int) (hs : Sl w w.heap.size 1 A n (bs.map (.int .u8))) (hn : n ≤ 1073741824) :
    Calls Try.prog 68 #[.slice A n c] w (RetB w.heap.size (numB n ++ bs) w) := by
  obtain ⟨i0, hi, hi0, hi1, hi2⟩ := info_parts Try.infoU8
  have hlen := hs.length
  have HS := Lib.hid hs; have HL := Lib.hid hlen
  have hnl := (numF_len 9 n).2
  clear hs hlen
  go_enter Try.func68, Try.ntmps68
  go_wp2_with fail
  refine (rNum_any _ n (by show _ < _; omega)).mono ?_
  rintro e w2 ⟨v2, rfl, hown2, hb2⟩
  have HB2 := Lib.hid hb2; have HO2 := Lib.hid hown2
  have HS2 := Lib.hid (HS.out.below HB2.out)
  obtain ⟨L, hL⟩ : ∃ L, (numB n).length = L := ⟨_, rfl⟩
  have hLn : L ≤ 10 := by rw [← hL]; exact hnl
  rw [hL] at HO2
  have HLL := Lib.hid hL
  clear hb2 hown2 hL hnl
  go_wp2_with (at_builtin; refine wpList_app _ rfl (.tmp 6) (.tmp 7) 23 rfl w.heap.size 5 i0 (.int .u8 0) 1 1 Try.underlying23 hi hi0 hi1 hi2 rfl (by decide) _ L _ rfl HO2.out _ _ n c (bs.map (.int .u8)) rfl HS2.out (ints_one _ _) (by unfold maxLen; omega) (by omega) HB2.out.size ?_; intro v3 w3 hown3 hg3 hat3; have hb3 := grown_below HB2.out HO2.out hg3 (Nat.le_refl _) HB2.out.size; have HO3 := Lib.hid hown3; have HB3 := Lib.hid hb3; clear hown3 hg3 hb3 hat3)
  go_ret
  have := HO3.out
  rw [← List.map_append, ← HLL.out, ← HL.out, ← List.length_append] at this
  refine ⟨_, rfl, ?_, HB3.out⟩
  rw [← HL.out]
  exact this

theorem rFold_any (w : World) (k : Int) (hk0 : Hid (-9223372036854775808 ≤ k)) (hk1 : Hid (k < 9223372036854775808)) : Calls Try.prog 122 #[.int .i64 k] w fun e w' => e = .returned (.int .u64 (foldI k : Int)) ∧ w = w' := by
  by_cases h : k < 0
  · have HF : Hid (IntKind.u64.wrap (IntKind.u64.wrap (2 * IntKind.u64.wrap (wrap64 (-wrap64 (k + 1)))) + 1) = (foldI k : Int)) := by
      have h0 := hk0.out
      show _ = _
      rw [foldI, if_pos h]
      simp only [IntKind.wrap_u64, wrap64]
      omega
    go_enter Try.func122, Try.ntmps122
    go_wp2_with fail
    go_ret
    exact ⟨by rw [← HF.out]; rfl, rfl⟩
  · have HF : Hid (IntKind.u64.wrap (2 * IntKind.u64.wrap k) = (foldI k : Int)) := by
      have h1 := hk1.out
      show _ = _
      rw [foldI, if_neg h]
      simp only [IntKind.wrap_u64]
      omega
    go_enter Try.func122, Try.ntmps122
    go_wp2_with fail
    go_ret
    exact ⟨by rw [← HF.out]; rfl, rfl⟩
end Go.Proofs.Ythibihjblodfmaa
