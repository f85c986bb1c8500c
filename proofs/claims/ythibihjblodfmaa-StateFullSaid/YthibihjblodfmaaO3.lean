/- Numbers with a sign, and texts, put behind others. -/
import Derived.Test.YthibihjblodfmaaO2
import Derived.Lib.AppendStr
import Derived.Lib.EndianBits
namespace Go.Proofs.Ythibihjblodfmaa
open Go.RowKit

theorem strCells_bytes (s : ByteArray) : Lib.strCells s = (bytesOf s).map (.int .u8) := by simp [Lib.strCells, bytesOf]

theorem putText_any (w : World) (A : Option Addr) (n c : Nat) (bs : List Int) (s : ByteArray) (hs : Sl w w.heap.size 1 A n (bs.map (.int .u8))) (hn : n ≤ 1073741824) (hn' : s.size ≤ 1073741824) :
    Calls Try.prog 127 #[.slice A n c, .string s] w (RetB w.heap.size (bs ++ (numB s.size ++ bytesOf s)) w) := by
  obtain ⟨i0, hi, hi0, hi1, hi2⟩ := info_parts Try.infoU8
  have hlen := hs.length
  have HS := Lib.hid hs; have HL := Lib.hid hlen
  obtain ⟨n', hn1⟩ : ∃ n', s.size = n' := ⟨_, rfl⟩
  have HN := Lib.hid hn1
  rw [hn1] at hn' ⊢
  have hnl := (numF_len 9 n').2
  have hss : (s.size : Int) = n' := by omega
  clear hs hlen hn1
  go_enter Try.func127, Try.ntmps127
  go_wp2_with fail
  refine (fresh_any _ A n c bs HS.out (10 + n') (by omega) (by omega)).mono ?_
  rintro e w1 ⟨v, rfl, hown, hb1⟩
  have HB1 := Lib.hid hb1; have HO1 := Lib.hid hown
  clear hb1 hown
  go_wp2_with fail
  refine (number_any _ w.heap.size v bs HO1.out HB1.out.size n' (by show _ < _; omega) (by rw [HL.out]; omega)).mono ?_
  rintro e w2 ⟨v2, rfl, hown2, hb2⟩
  have HB2 := Lib.hid (HB1.out.trans hb2); have HO2 := Lib.hid hown2
  obtain ⟨L, hL⟩ : ∃ L, (bs ++ numB n').length = L := ⟨_, rfl⟩
  have hLn : L ≤ n + 10 := by rw [← hL, List.length_append, HL.out]; exact Nat.add_le_add_left hnl _
  rw [hL] at HO2
  have HLL := Lib.hid hL
  have HSS := Lib.hid hss
  clear hb2 hown2 hL hnl hss
  go_wp2_with (at_builtin; refine Lib.wpList_append_own_string _ rfl (.tmp 15) (.tmp 16) 23 9 rfl w.heap.size 5 i0 Try.underlying23 Try.underlying9 hi hi0 hi1 hi2 _ L _ rfl HO2.out s rfl (by have := HN.out; unfold maxLen; omega) (by have := HN.out; omega) HB2.out.size ?_; intro v3 w3 hown3 hg3 hat3; have hb3 := grown_below HB2.out HO2.out hg3 (Nat.le_refl _) HB2.out.size; have HO3 := Lib.hid hown3; have HB3 := Lib.hid hb3; clear hown3 hg3 hb3 hat3)
  go_ret
  have := HO3.out
  rw [strCells_bytes, ← List.map_append, ← HLL.out, ← bytesOf_len, ← List.length_append, List.append_assoc] at this
  exact ⟨_, rfl, this, HB3.out⟩

/-- The number that tells one with a sign. -/
def foldI (n : Int) : Nat := if n < 0 then (2 * (-(n + 1)) + 1).toNat else (2 * n).toNat
theorem not_neg (m : Nat) (hm : m < 9223372036854775808) : bits .xor .i64 (-1) (-((m : Int) + 1)) = m := by
  show IntKind.i64.wrap ((BitVec.ofInt 64 (-1) ^^^ BitVec.ofInt 64 (-((m : Int) + 1))).toNat : Int) = _
  have h1 : BitVec.ofInt 64 (-1) = BitVec.allOnes 64 := by decide
  have h2 : (-((m : Int) + 1)) = Int.negSucc m := by omega
  rw [h1, BitVec.allOnes_xor, h2, BitVec.ofInt_negSucc_eq_not_ofNat, BitVec.not_not, BitVec.toNat_ofNat, Nat.mod_eq_of_lt (by omega), IntKind.wrap_i64]
  omega
theorem or_one {x : Int} (h0 : 0 ≤ x) (h1 : x < 18446744073709551616) (h2 : x % 2 = 0) : bits .or .u64 x 1 = x + 1 := by
  have h := bits_join .u64 64 (by decide) wraps_u64 1 x 1 h0 (by omega) (by omega) (by omega) (by omega) (by omega)
  exact h
theorem fold_neg {k : Int} (h0 : -9223372036854775808 ≤ k) (h : k < 0) :
    bits .or .u64 (IntKind.u64.wrap (IntKind.u64.wrap (bits .xor .i64 (-1) k) * 2)) 1 = (foldI k : Int) := by
  obtain ⟨m, rfl⟩ : ∃ m : Nat, k = -((m : Int) + 1) := ⟨(-k - 1).toNat, by omega⟩
  rw [not_neg m (by omega), IntKind.wrap_u64, IntKind.wrap_u64, or_one (by omega) (by omega) (by omega), foldI, if_pos h]
  omega
theorem fold_pos {k : Int} (h0 : k < 9223372036854775808) (h : ¬ k < 0) : IntKind.u64.wrap (IntKind.u64.wrap k * 2) = (foldI k : Int) := by
  rw [IntKind.wrap_u64, IntKind.wrap_u64, foldI, if_neg h]
  omega
theorem fold_lt {k : Int} (h0 : -9223372036854775808 ≤ k) (h1 : k < 9223372036854775808) : foldI k < 18446744073709551616 := by
  unfold foldI; split <;> omega
set_option maxRecDepth 20000 in
theorem putInt_any (w : World) (A : Option Addr) (n c : Nat) (bs : List Int) (hs : Sl w w.heap.size 1 A n (bs.map (.int .u8))) (k : Int) (hk0 : Hid (-9223372036854775808 ≤ k)) (hk1 : Hid (k < 9223372036854775808)) (hn : n ≤ 1073741824) :
    Calls Try.prog 128 #[.slice A n c, .int .i64 k] w (RetB w.heap.size (bs ++ numB (foldI k)) w) := by
  have HS := Lib.hid hs
  have HF := Lib.hid (fold_lt hk0.out hk1.out)
  clear hs
  by_cases h : k < 0
  · have HE := Lib.hid (fold_neg hk0.out h)
    have hsg : IntKind.i64.signed = true := rfl
    go_enter Try.func128, Try.ntmps128
    go_wp2_with fail
    rw [HE.out]
    refine (putNum_any _ A n c bs HS.out _ HF.out hn).mono ?_
    rintro e w2 ⟨v2, rfl, hown2, hb2⟩
    have HB2 := Lib.hid hb2; have HO2 := Lib.hid hown2
    clear hb2 hown2
    go_wp2_with fail
    go_ret
    exact ⟨_, rfl, HO2.out, HB2.out⟩
  · have HE := Lib.hid (fold_pos hk1.out h)
    go_enter Try.func128, Try.ntmps128
    go_wp2_with fail
    rw [HE.out]
    refine (putNum_any _ A n c bs HS.out _ HF.out hn).mono ?_
    rintro e w2 ⟨v2, rfl, hown2, hb2⟩
    have HB2 := Lib.hid hb2; have HO2 := Lib.hid hown2
    clear hb2 hown2
    go_wp2_with fail
    go_ret
    exact ⟨_, rfl, HO2.out, HB2.out⟩
end Go.Proofs.Ythibihjblodfmaa
