/- What bytes begin with: the walk of octet.look. -/
import Derived.Test.YthibihjblodfmaaO2
import Derived.Lib.EndianBits
namespace Go.Proofs.Ythibihjblodfmaa
open Go.RowKit

/-- The number of the first k bytes. -/
def preB : Nat → List Int → Int
  | 0, _ => 0
  | _ + 1, [] => 0
  | k + 1, b :: bs => b % 128 + 128 * preB k bs
theorem pre_sum : ∀ (k : Nat) (bs : List Int), k < bs.length → preB (k + 1) bs = sumB k bs
  | _, [], h => by simp at h
  | 0, b :: bs, _ => by simp [preB, sumB]
  | k + 1, b :: bs, h => by
    have ih := pre_sum k bs (by simpa using h)
    show b % 128 + 128 * preB (k + 1) bs = b % 128 + 128 * sumB k bs
    rw [ih]
theorem pre_snoc : ∀ (k : Nat) (bs : List Int) (b : Int), bs[k]? = some b → preB (k + 1) bs = preB k bs + b % 128 * 128 ^ k
  | _, [], _, h => by simp at h
  | 0, x :: bs, b, h => by
    obtain rfl : x = b := by simpa using h
    simp [preB]
  | k + 1, x :: bs, b, h => by
    have ih := pre_snoc k bs b (by simpa using h)
    show x % 128 + 128 * preB (k + 1) bs = x % 128 + 128 * preB k bs + b % 128 * 128 ^ (k + 1)
    have e : b % 128 * 128 ^ (k + 1) = 128 * (b % 128 * 128 ^ k) := by rw [Int.pow_succ, ← Int.mul_assoc, Int.mul_comm]
    rw [ih, e]; omega
theorem pre_bound : ∀ (k : Nat) (bs : List Int), 0 ≤ preB k bs ∧ preB k bs < 128 ^ k
  | 0, _ => by simp [preB]
  | k + 1, [] => by simp only [preB]; exact ⟨by omega, Int.pow_pos (by omega)⟩
  | k + 1, b :: bs => by
    obtain ⟨h1, h2⟩ := pre_bound k bs
    simp only [preB, Int.pow_succ]
    omega
theorem run_ge : ∀ (k F : Nat) (bs : List Int), k ≤ F → k ≤ bs.length → (∀ j, j < k → 128 ≤ bs.getD j 0) → runB F bs = k + runB (F - k) (bs.drop k)
  | 0, F, bs, _, _, _ => by simp
  | k + 1, 0, bs, h, _, _ => by omega
  | k + 1, F + 1, [], _, h, _ => by simp at h
  | k + 1, F + 1, b :: bs, h, hl, hb => by
    have ih := run_ge k F bs (by omega) (by simpa using hl) (fun j hj => hb (j + 1) (by omega))
    have h0 : 128 ≤ b := hb 0 (by omega)
    show (if b < 128 then 0 else 1 + runB F bs) = k + 1 + runB (F + 1 - (k + 1)) (bs.drop k)
    rw [if_neg (by omega), ih, show F + 1 - (k + 1) = F - k by omega]; omega
theorem run_stop {k : Nat} {bs : List Int} {b : Int} (hk : k < 10) (h : bs[k]? = some b) (hb : b < 128) (hr : ∀ j, j < k → 128 ≤ bs.getD j 0) : runB 10 bs = k := by
  rw [run_ge k 10 bs (by omega) (by have := (List.getElem?_eq_some_iff.1 h).1; omega) hr, drop_cons h, show 10 - k = (9 - k) + 1 by omega]
  show k + (if b < 128 then 0 else _) = k
  rw [if_pos hb]; rfl
theorem run_end {k : Nat} {bs : List Int} (hk : k = min bs.length 10) (hr : ∀ j, j < k → 128 ≤ bs.getD j 0) : runB 10 bs = k := by
  rw [run_ge k 10 bs (by omega) (by omega) hr]
  by_cases h : k = 10
  · subst h; simp [runB]
  · rw [List.drop_eq_nil_of_le (by omega)]
    obtain ⟨j, hj⟩ : ∃ j, 10 - k = j + 1 := ⟨9 - k, by omega⟩
    rw [hj]; rfl
theorem pow128 : ∀ (k : Nat), (128 : Int) ^ k = 2 ^ (7 * k)
  | 0 => rfl
  | k + 1 => by rw [Int.pow_succ, pow128 k, Nat.mul_add, Int.pow_add]; rfl
theorem pow128_le {k m : Nat} (h : k ≤ m) : (128 : Int) ^ k ≤ 128 ^ m := by
  have : (128 : Nat) ^ k ≤ 128 ^ m := Nat.pow_le_pow_right (by decide) h
  exact_mod_cast this
theorem and127 {x : Int} (h0 : 0 ≤ x) (h1 : x < 256) : bits .and .u8 x 127 = x % 128 := by
  have H : ∀ k : Fin 256, bits .and .u8 (k.val : Int) 127 = (k.val : Int) % 128 := by decide +kernel
  have := H ⟨x.toNat, by omega⟩
  rwa [show ((⟨x.toNat, by omega⟩ : Fin 256).val : Int) = x by simp; omega] at this
/-- The program's step: seven bits are laid in by 'or'. -/
theorem look_step {bs : List Int} {k : Nat} {b : Int} (hb : bs[k]? = some b) (hk : k ≤ 9) (h9 : k = 9 → b ≤ 1) (h0 : 0 ≤ b) :
    bits .or .u64 (preB k bs) (IntKind.u64.wrap (b % 128 * 2 ^ (7 * k))) = preB (k + 1) bs := by
  obtain ⟨n0, n1⟩ := pre_bound k bs
  rw [pre_snoc k bs b hb, ← pow128]
  have hp : (0 : Int) < 128 ^ k := Int.pow_pos (by omega)
  have hx0 : 0 ≤ b % 128 * 128 ^ k := Int.mul_nonneg (by omega) (by omega)
  have e64 : (2 : Int) ^ 64 = 18446744073709551616 := by decide
  have hx1 : b % 128 * 128 ^ k < 2 ^ 64 := by
    rw [e64]
    by_cases h : k = 9
    · subst h
      have := h9 rfl
      have e9 : (128 : Int) ^ 9 = 9223372036854775808 := by decide
      rw [e9]; omega
    · have h1 : b % 128 * 128 ^ k ≤ 127 * 128 ^ k := Int.mul_le_mul_of_nonneg_right (by omega) (by omega)
      have h2 : (128 : Int) ^ k ≤ 128 ^ 8 := pow128_le (by omega)
      have e8 : (128 : Int) ^ 8 = 72057594037927936 := by decide
      omega
  have hn : preB k bs < 2 ^ 64 := by
    have h2 : (128 : Int) ^ k ≤ 128 ^ 9 := pow128_le (by omega)
    have e9 : (128 : Int) ^ 9 = 9223372036854775808 := by decide
    omega
  rw [wraps_u64 _ hx0 hx1]
  exact bits_join_low .u64 64 (by decide) wraps_u64 (7 * k) _ _ n0 (by rw [← pow128]; exact n1) hn hx0 (by rw [← pow128]; exact Int.mul_emod_left _ _) hx1

theorem look_step' {bs : List Int} {k : Nat} {b : Int} (hb : bs[k]? = some b) (hk : k ≤ 9) (h9 : k = 9 → b ≤ 1) (h0 : 0 ≤ b) (h1 : b < 256) :
    bits .or .u64 (preB k bs) (IntKind.u64.wrap (IntKind.u64.wrap (bits .and .u8 b 127) * 2 ^ (7 * k))) = preB (k + 1) bs := by
  rw [and127 h0 h1, wraps_u64 (b % 128) (by omega) (by have e64 : (2 : Int) ^ 64 = 18446744073709551616 := by decide
                                                       omega)]
  exact look_step hb hk h9 h0
theorem ret3 {a a' b b' c c' : Int} (h1 : a = a') (h2 : b = b') (h3 : c = c') : Ending.returned (.tuple #[.int .u64 a, .int .i64 b, .int .i64 c]) = .returned (.tuple #[.int .u64 a', .int .i64 b', .int .i64 c']) := by rw [h1, h2, h3]
/-- What 'look' answers, as the program hands it. -/
def RetL (bs : List Int) (w : World) (e : Ending) (w' : World) : Prop :=
  e = .returned (.tuple #[.int .u64 (lookB bs).1, .int .i64 ((lookB bs).2.1 : Int), .int .i64 (lookB bs).2.2]) ∧ w = w'
theorem look_short {bs : List Int} {k : Nat} (hr : runB 10 bs = k) (h : k = bs.length) (h1 : k < 10) : lookB bs = (0, 0, 4) := by
  unfold lookB; rw [hr]; simp only; rw [if_pos ⟨h, h1⟩]
theorem look_form {bs : List Int} {k : Nat} (hr : runB 10 bs = k) (h : ¬ (k = bs.length ∧ k < 10)) (h1 : k = 10 ∨ (0 < k ∧ bs.getD k 0 = 0) ∨ (k = 9 ∧ 1 < bs.getD 9 0)) : lookB bs = (0, 0, 3) := by
  unfold lookB; rw [hr]; simp only; rw [if_neg h, if_pos h1]
theorem look_is {bs : List Int} {k : Nat} (hr : runB 10 bs = k) (h : ¬ (k = bs.length ∧ k < 10)) (h1 : ¬ (k = 10 ∨ (0 < k ∧ bs.getD k 0 = 0) ∨ (k = 9 ∧ 1 < bs.getD 9 0))) : lookB bs = (sumB k bs, k + 1, 0) := by
  unfold lookB; rw [hr]; simp only; rw [if_neg h, if_neg h1]

set_option maxRecDepth 20000 in
theorem look_any (w : World) (B : Nat) (A : Option Addr) (n c : Nat) (bs : List Int) (ho : ByOk bs) (hs : Sl w B 1 A n (bs.map (.int .u8))) :
    Calls Try.prog 117 #[.slice A n c] w (RetL bs w) := by
  have hlen := hs.length
  have hn := hs.le
  have HS := Lib.hid hs; have HL := Lib.hid hlen; have HO := Lib.hid ho
  obtain ⟨m, hm⟩ : ∃ m, min n 10 = m := ⟨_, rfl⟩
  have hm1 : m ≤ 10 := by omega
  have hm2 : m ≤ n := by omega
  have HM := Lib.hid hm
  clear hs hlen ho
  rcases Nat.lt_or_ge 10 n with h10 | h10
  all_goals
    have hm3 : m < n → 10 ≤ m := by omega
    have hm4 : m < 10 → n ≤ m := by omega
    clear hm
    go_enter Try.func117, Try.ntmps117
    go_wp2_with fail
    go_step3
    go_wp2_with fail
    go_step3
    go_wp2_with fail
    go_loop [5, 6, 11] (fun ns ls is => ∃ (k : Nat) (v : Int), k ≤ m ∧ ns = .int .u64 v ∧ ls = .int .i64 (-1) ∧ is = .int .i64 k ∧ Hid (k ≤ 9 → v = preB k bs) ∧ Hid (∀ j, j < k → 128 ≤ bs.getD j 0)) (fun _ _ is => m - (intOf is).toNat)
    case atStart => exact ⟨0, 0, by omega, rfl, rfl, rfl, (by intro _; rfl), fun j hj => by omega⟩
    case round =>
      obtain ⟨k, v, hk, rfl, rfl, rfl, HV, HR⟩ := hrel
      by_cases hlt : k < m
      · obtain ⟨b, o, rfl, hbb, hcc⟩ := HS.out.spot (by omega) (by omega)
        obtain ⟨x, hx⟩ : ∃ x, bs[k]? = some x := ⟨bs[k]'(by rw [HL.out]; omega), List.getElem?_eq_getElem _⟩
        have hc : w.cell? ⟨b, o + k, none⟩ = some (.int .u8 x) := hcc k _ (by rw [List.getElem?_map, hx]; rfl)
        obtain ⟨x0, x1⟩ := HO.out x (List.mem_of_getElem? hx)
        have hg : bs.getD k 0 = x := by rw [List.getD_eq_getElem?_getD, hx]; rfl
        have HX := Lib.hid hx; have HG := Lib.hid hg
        have hk1 : (k : Int) < m := by omega
        have hk2 : (k : Int) < n := by omega
        have hk0 : (0 : Int) ≤ k := by omega
        clear hx hcc hg
        by_cases hbx : x < 128
        · have hrun := run_stop (by omega) HX.out hbx HR.out
          have HRUN := Lib.hid hrun
          have hkl : ¬ (k = bs.length ∧ k < 10) := by rw [HL.out]; omega
          have HKL := Lib.hid hkl
          have hst := fun (h9 : k = 9 → x ≤ 1) => look_step' HX.out (by omega) h9 x0 x1
          have hsum := (pre_sum k bs (by rw [HL.out]; omega)).symm
          rw [HV.out (by omega)] at *
          have HST := Lib.hid hst; have HSU := Lib.hid hsum
          obtain ⟨V, hV⟩ : ∃ V, preB k bs = V := ⟨_, rfl⟩
          rw [hV] at HST ⊢
          clear hrun hkl hst hsum hV
          by_cases hk9 : k = 9
          · subst hk9
            have hu : 1 ≤ x → ¬ 1 < x → True := fun _ _ => trivial
            by_cases hx1 : 1 < x
            · have hx3 : (x == 0) = false := by simp; omega
              have hx2 : decide (1 < x) = true := by simp; omega
              have hlk := look_form HRUN.out HKL.out (.inr (.inr ⟨rfl, by rw [HG.out]; exact hx1⟩))
              have HLK := Lib.hid hlk
              clear hlk
              go_wp2_with fail
              go_ret3
              go_light
              exact ⟨by rw [HLK.out]; rfl, rfl⟩
            · have hx2 : decide (1 < x) = false := by simp; omega
              by_cases hx0 : x = 0
              · have hx3 : (x == 0) = true := by simp; omega
                have hlk := look_form HRUN.out HKL.out (.inr (.inl ⟨by omega, by rw [HG.out]; exact hx0⟩))
                have HLK := Lib.hid hlk
                clear hlk hx0
                go_wp2_with fail
                go_ret3
                go_light
                exact ⟨by rw [HLK.out]; rfl, rfl⟩
              · have hx3 : (x == 0) = false := by simp; omega
                have hlk := look_is HRUN.out HKL.out (by rintro (h | ⟨_, h⟩ | ⟨_, h⟩); · omega
                                                         · rw [HG.out] at h; exact hx0 h
                                                         · rw [HG.out] at h; exact hx1 h)
                have HLK := Lib.hid hlk
                clear hlk
                go_wp2_with fail
                go_ret3
                go_light
                have hst := HST.out (fun _ => by omega)
                rw [show (2 : Int) ^ (7 * 9) = 9223372036854775808 by decide] at hst
                refine ⟨?_, rfl⟩
                rw [HLK.out]
                exact ret3 (hst.trans HSU.out.symm) rfl rfl
          · have hk9' : ((k : Int) == 9) = false := by simp; omega
            have hk99 : ¬ (k : Int) = 9 := by omega
            by_cases hx0 : 0 < k ∧ x = 0
            · obtain ⟨hk00, hx0⟩ := hx0
              have hx3 : (x == 0) = true := by simp; omega
              have hk01 : decide ((0 : Int) < (k : Int)) = true := by simp; omega
              have hlk := look_form HRUN.out HKL.out (.inr (.inl ⟨hk00, by rw [HG.out]; exact hx0⟩))
              have HLK := Lib.hid hlk
              clear hlk hx0
              go_wp2_with fail
              go_ret3
              go_light
              exact ⟨by rw [HLK.out]; rfl, rfl⟩
            · have hlk := look_is HRUN.out HKL.out (by rintro (h | ⟨h1, h⟩ | ⟨h1, _⟩); · omega
                                                       · rw [HG.out] at h; exact hx0 ⟨h1, h⟩
                                                       · omega)
              have HLK := Lib.hid hlk
              have hst := HST.out (fun h => by omega)
              have HST2 := Lib.hid hst
              clear hlk hst
              by_cases hk00 : 0 < k
              · have hx3 : (x == 0) = false := by simp; omega
                have hk01 : decide ((0 : Int) < (k : Int)) = true := by simp; omega
                clear hx0
                go_wp2_with fail
                go_ret3
                go_light
                refine ⟨?_, rfl⟩
                rw [HLK.out]
                exact ret3 (HST2.out.trans HSU.out.symm) rfl rfl
              · have hk01 : decide ((0 : Int) < (k : Int)) = false := by simp; omega
                have hk02 : (k : Int) ≤ 0 := by omega
                clear hx0
                go_wp2_with fail
                go_ret3
                go_light
                refine ⟨?_, rfl⟩
                rw [HLK.out]
                exact ret3 (HST2.out.trans HSU.out.symm) rfl rfl
        · have hbx' : 128 ≤ x := by omega
          have hbx2 : decide (x < 128) = false := by simp; omega
          go_wp2_with fail
          go_round
          case rel =>
            refine ⟨k + 1, _, by omega, rfl, rfl, by go_num, fun h9 => ?_, fun j hj => ?_⟩
            · rw [HV.out (by omega)]
              exact look_step' HX.out (by omega) (fun h => by omega) x0 x1
            · by_cases hjk : j = k
              · subst hjk; rw [HG.out]; exact hbx'
              · exact HR.out j (by omega)
          case measure => simp [intOf]; omega
      · obtain rfl : k = m := by omega
        have hrun := run_end (bs := bs) (k := k) (by rw [HL.out]; exact HM.out.symm) HR.out
        have HRUN := Lib.hid hrun
        by_cases hk10 : k = 10
        · have hlk := look_form HRUN.out (by omega) (.inl hk10)
          have HLK := Lib.hid hlk
          have hn10 : (10 : Int) ≤ n := by omega
          clear hlk hrun
          go_wp2_with fail
          go_ret3
          go_light
          exact ⟨by rw [HLK.out]; rfl, rfl⟩
        · have hlk := look_short HRUN.out (by rw [HL.out]; omega) (by omega)
          have HLK := Lib.hid hlk
          have hn10 : (n : Int) < 10 := by omega
          have hkn : n ≤ k := by omega
          clear hlk hrun
          first
            | (exfalso; omega)
            | (go_wp2_with fail
               go_ret3
               go_light
               exact ⟨by rw [HLK.out]; rfl, rfl⟩)
end Go.Proofs.Ythibihjblodfmaa
