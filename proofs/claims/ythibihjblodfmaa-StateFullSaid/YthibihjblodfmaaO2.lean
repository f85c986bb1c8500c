/- Numbers and bytes put behind others: the walks of package octet. -/
import Derived.Test.YthibihjblodfmaaO0
import Derived.Test.YthibihjblodfmaaO1
namespace Go.Proofs.Ythibihjblodfmaa
open Go.RowKit

theorem or128 {x : Int} (h0 : 0 ≤ x) (h1 : x < 256) : bits .or .u8 x 128 = x % 128 + 128 := by
  have H : ∀ k : Fin 256, bits .or .u8 (k.val : Int) 128 = (k.val : Int) % 128 + 128 := by decide +kernel
  have := H ⟨x.toNat, by omega⟩
  rwa [show ((⟨x.toNat, by omega⟩ : Fin 256).val : Int) = x by simp; omega] at this

/-- Bytes that are owned, and what is below stays. -/
def OwnB (base : Nat) (bs : List Int) (w : World) (v : Value) (w' : World) : Prop :=
  w'.ownsRow base 5 1 v bs.length (bs.map (.int .u8)) ∧ Below base w w'
def RetB (base : Nat) (bs : List Int) (w : World) (e : Ending) (w' : World) : Prop := ∃ v, e = .returned v ∧ OwnB base bs w v w'

set_option maxRecDepth 20000 in
theorem number_any (w : World) (base : Nat) (v : Value) (xs : List Int) (hown : w.ownsRow base 5 1 v xs.length (xs.map (.int .u8))) (hbase : base ≤ w.heap.size) (n : Nat) (hn : Hid (n < 18446744073709551616)) (hk : xs.length ≤ 1099511627776) :
    Calls Try.prog 113 #[v, .int .u64 n] w (RetB base (xs ++ numB n) w) := by
  obtain ⟨i0, hi, hi0, hi1, hi2⟩ := info_parts Try.infoU8
  have HO := Lib.hid hown; have HN := hn
  clear hown hn
  go_enter Try.func113, Try.ntmps113
  go_wp2_with fail
  go_loopw [0, 1] (fun vs ns wr => ∃ (done : List Int) (f m : Nat), f + done.length = 9 ∧ ns = .int .u64 m ∧ Hid (m < 128 ^ (f + 1)) ∧ Hid (done ++ numF f m = numB n) ∧ Hid (wr.ownsRow base 5 1 vs (xs ++ done).length ((xs ++ done).map (.int .u8))) ∧ Hid (Below base w wr)) (fun _ ns _ => (intOf ns).toNat)
  case atStart => exact ⟨[], 9, n, rfl, rfl, (by have := HN.out; show n < 128 ^ 10; omega), by show [] ++ numF 9 n = numB n; rfl, by rw [List.append_nil]; exact HO.out, Below.refl _ _⟩
  case round =>
    obtain ⟨done, f, m, hf, rfl, HM, HD, HOW, HB⟩ := hrel
    have hfd : done.length ≤ 9 := by omega
    obtain ⟨L, hL⟩ : ∃ L, (xs ++ done).length = L := ⟨_, rfl⟩
    have hLk : L ≤ xs.length + 9 := by rw [← hL, List.length_append]; omega
    rw [hL] at HOW
    have HL := Lib.hid hL
    have hsz := Nat.le_trans hbase HB.out.size
    clear hL
    by_cases hlt : 128 ≤ m
    · have hm1 : decide ((128 : Int) ≤ (m : Int)) = true := by simp; omega
      have hm2 : (128 : Int) ≤ (m : Int) := by omega
      obtain ⟨f', rfl⟩ : ∃ f', f = f' + 1 := ⟨f - 1, by rcases Nat.eq_zero_or_pos f with rfl | h; · have := HM.out; omega
                                                        · omega⟩
      have hx : bits .or .u8 ((m : Int) % 256) 128 = ((m % 128 + 128 : Nat) : Int) := by rw [or128 (by omega) (by omega)]; omega
      have HX := Lib.hid hx
      clear hx
      go_wp2_with (at_builtin; refine wpList_app _ rfl (.tmp 7) (.tmp 11) 23 rfl base 5 i0 (.int .u8 0) 1 1 Try.underlying23 hi hi0 hi1 hi2 rfl (by decide) u0 L ((xs ++ done).map (.int .u8)) rfl (HOW.out.alloc _) _ _ 1 1 [.int .u8 (bits .or .u8 ((m : Int) % 256) 128)] rfl (sl_new wr #[.int .u8 (bits .or .u8 ((m : Int) % 256) 128)] 5 1 1 rfl (by omega)) (by simp [Value.oneCell']) (by unfold maxLen; omega) (by omega) (by simp; omega) ?_; intro v1 w3 hown1 hg1 hat1; have hb3 := grown_below (HB.out.alloc hsz (.cells #[.int .u8 (bits .or .u8 ((m : Int) % 256) 128)] 5)) (HOW.out.alloc _) hg1 (Nat.le_refl _) (by simp; omega); have HO3 := Lib.hid hown1; have HB3 := Lib.hid hb3; clear hown1 hg1 hat1 hb3)
      go_roundw
      case rel =>
        refine ⟨done ++ [((m % 128 + 128 : Nat) : Int)], f', m / 128, by simp; omega, by go_num, ?_, ?_, ?_, HB3⟩
        · have := HM.out
          show _ < _
          exact Nat.div_lt_of_lt_mul (by rw [Nat.pow_succ, Nat.mul_comm] at this; exact this)
        · show _ = _
          rw [← HD.out, numF_big hlt, List.append_assoc]; rfl
        · have := HO3.out
          rw [HX.out] at this
          show World.ownsRow _ _ _ _ _ _ _
          rw [← List.append_assoc, List.length_append, List.map_append, HL.out]
          exact this
      case measure => simp [intOf]; omega
    · have hm1 : decide ((128 : Int) ≤ (m : Int)) = false := by simp; omega
      have hm2 : (m : Int) < 128 := by omega
      have hfin : done ++ [(m : Int)] = numB n := by rw [← HD.out, numF_small (by omega)]
      have HF := Lib.hid hfin
      clear hfin
      go_wp2_with (at_builtin; refine wpList_app _ rfl (.tmp 15) (.tmp 18) 23 rfl base 5 i0 (.int .u8 0) 1 1 Try.underlying23 hi hi0 hi1 hi2 rfl (by decide) u0 L ((xs ++ done).map (.int .u8)) rfl (HOW.out.alloc _) _ _ 1 1 [.int .u8 (m : Int)] rfl (sl_new wr #[.int .u8 (m : Int)] 5 1 1 rfl (by omega)) (by simp [Value.oneCell']) (by unfold maxLen; omega) (by omega) (by simp; omega) ?_; intro v1 w3 hown1 hg1 hat1; have hb3 := grown_below (HB.out.alloc hsz (.cells #[.int .u8 (m : Int)] 5)) (HOW.out.alloc _) hg1 (Nat.le_refl _) (by simp; omega); have HO3 := Lib.hid hown1; have HB3 := Lib.hid hb3; clear hown1 hg1 hat1 hb3)
      go_ret
      refine ⟨_, rfl, ?_, HB3.out⟩
      have := HO3.out
      rw [← HF.out, ← List.append_assoc, List.length_append, List.map_append, HL.out]
      exact this

set_option maxRecDepth 20000 in
theorem fresh_any (w : World) (A : Option Addr) (n c : Nat) (bs : List Int) (hs : Sl w w.heap.size 1 A n (bs.map (.int .u8))) (m : Nat) (hn : n ≤ 1099511627776) (hm : m ≤ 1099511627776) :
    Calls Try.prog 114 #[.slice A n c, .int .i64 m] w (RetB w.heap.size bs w) := by
  obtain ⟨i0, hi, hi0, hi1, hi2⟩ := info_parts Try.infoU8
  have hlen := hs.length
  have HS := Lib.hid hs; have HL := Lib.hid hlen
  clear hs hlen
  go_enter Try.func114, Try.ntmps114
  go_wp2_with (first
    | (at_make; refine wpList_make_own _ rfl _ _ 23 rfl w.heap.size 5 i0 (.int .u8 0) 1 Try.underlying23 hi hi0 hi1 .i64 .i64 _ (n + m) rfl rfl (by omega) (by rw [hi2]; omega) (by unfold maxLen; omega) (Nat.le_refl _) ?_; intro w1 hown1 hg1; have hb1 := (Below.refl w.heap.size w).grown hg1 (Nat.le_refl _) (fun k hk => by cases hk); have HO1 := Lib.hid hown1; have HB1 := Lib.hid hb1; have HS1 := Lib.hid (HS.out.below HB1.out); clear hown1 hg1 hb1)
    | (at_builtin; refine wpList_app _ rfl (.tmp 9) (.tmp 10) 23 rfl w.heap.size 5 i0 (.int .u8 0) 1 1 Try.underlying23 hi hi0 hi1 hi2 rfl (by decide) _ 0 [] rfl HO1.out _ _ n c (bs.map (.int .u8)) rfl HS1.out (ints_one _ _) (by unfold maxLen; omega) (by omega) HB1.out.size ?_; intro v2 w2 hown2 hg2 hat2; have hb2 := grown_below HB1.out HO1.out hg2 (Nat.le_refl _) HB1.out.size; have HO2 := Lib.hid hown2; have HB2 := Lib.hid hb2; clear hown2 hg2 hb2 hat2))
  go_ret
  have := HO2.out
  rw [Nat.zero_add, List.nil_append, ← HL.out] at this
  exact ⟨_, rfl, this, HB2.out⟩
theorem OwnB.form {base : Nat} {bs : List Int} {w w' : World} {v : Value} (h : OwnB base bs w v w') : ∃ A c, v = .slice A bs.length c := own_form h.1
theorem OwnB.sl {base : Nat} {bs : List Int} {w w' : World} {A : Option Addr} {n c : Nat} (h : OwnB base bs w (.slice A n c) w') : Sl w' w'.heap.size 1 A bs.length (bs.map (.int .u8)) := by
  obtain ⟨A', c', e⟩ := h.form
  injection e with e1 e2 e3
  subst e1 e2 e3
  exact Sl.of_own h.1
theorem putNum_any (w : World) (A : Option Addr) (n c : Nat) (bs : List Int) (hs : Sl w w.heap.size 1 A n (bs.map (.int .u8))) (k : Nat) (hk : Hid (k < 18446744073709551616)) (hn : n ≤ 1073741824) :
    Calls Try.prog 65 #[.slice A n c, .int .u64 k] w (RetB w.heap.size (bs ++ numB k) w) := by
  have hlen := hs.length
  have HS := Lib.hid hs; have HL := Lib.hid hlen
  clear hs hlen
  go_enter Try.func65, Try.ntmps65
  go_wp2_with fail
  refine (fresh_any _ A n c bs HS.out 10 (by omega) (by omega)).mono ?_
  rintro e w1 ⟨v, rfl, hown, hb1⟩
  have HB1 := Lib.hid hb1; have HO1 := Lib.hid hown
  clear hb1 hown
  go_wp2_with fail
  refine (number_any _ w.heap.size v bs HO1.out HB1.out.size k hk (by rw [HL.out]; omega)).mono ?_
  rintro e w2 ⟨v2, rfl, hown2, hb2⟩
  have HB2 := Lib.hid (HB1.out.trans hb2); have HO2 := Lib.hid hown2
  clear hb2 hown2
  go_wp2_with fail
  go_ret
  exact ⟨_, rfl, HO2.out, HB2.out⟩
theorem putBytes_any (w : World) (A A' : Option Addr) (n c n' c' : Nat) (bs xs : List Int) (hs : Sl w w.heap.size 1 A n (bs.map (.int .u8))) (hs' : Sl w w.heap.size 1 A' n' (xs.map (.int .u8))) (hn : n ≤ 1073741824) (hn' : n' ≤ 1073741824) :
    Calls Try.prog 66 #[.slice A n c, .slice A' n' c'] w (RetB w.heap.size (bs ++ (numB n' ++ xs)) w) := by
  obtain ⟨i0, hi, hi0, hi1, hi2⟩ := info_parts Try.infoU8
  have hlen := hs.length
  have hlen' := hs'.length
  have HS := Lib.hid hs; have HL := Lib.hid hlen; have HS' := Lib.hid hs'; have HL' := Lib.hid hlen'
  have hnl := (numF_len 9 n').2
  clear hs hlen hs' hlen'
  go_enter Try.func66, Try.ntmps66
  go_wp2_with fail
  refine (fresh_any _ A n c bs HS.out (10 + n') (by omega) (by omega)).mono ?_
  rintro e w1 ⟨v, rfl, hown, hb1⟩
  have HB1 := Lib.hid hb1; have HO1 := Lib.hid hown
  clear hb1 hown
  go_wp2_with fail
  refine (number_any _ w.heap.size v bs HO1.out HB1.out.size n' (by show _ < _; omega) (by rw [HL.out]; omega)).mono ?_
  rintro e w2 ⟨v2, rfl, hown2, hb2⟩
  have HB2 := Lib.hid (HB1.out.trans hb2); have HO2 := Lib.hid hown2
  have HS2 := Lib.hid (HS'.out.below HB2.out)
  obtain ⟨L, hL⟩ : ∃ L, (bs ++ numB n').length = L := ⟨_, rfl⟩
  have hLn : L ≤ n + 10 := by rw [← hL, List.length_append, HL.out]; exact Nat.add_le_add_left hnl _
  rw [hL] at HO2
  have HLL := Lib.hid hL
  clear hb2 hown2 hL hnl
  go_wp2_with (at_builtin; refine wpList_app _ rfl (.tmp 15) (.tmp 16) 23 rfl w.heap.size 5 i0 (.int .u8 0) 1 1 Try.underlying23 hi hi0 hi1 hi2 rfl (by decide) _ L _ rfl HO2.out _ _ n' c' (xs.map (.int .u8)) rfl HS2.out (ints_one _ _) (by unfold maxLen; omega) (by omega) HB2.out.size ?_; intro v3 w3 hown3 hg3 hat3; have hb3 := grown_below HB2.out HO2.out hg3 (Nat.le_refl _) HB2.out.size; have HO3 := Lib.hid hown3; have HB3 := Lib.hid hb3; clear hown3 hg3 hb3 hat3)
  go_ret
  have := HO3.out
  rw [← List.map_append, ← HLL.out, ← HL'.out, ← List.length_append, List.append_assoc] at this
  refine ⟨_, rfl, ?_, HB3.out⟩
  rw [← HL'.out]
  exact this
end Go.Proofs.Ythibihjblodfmaa
