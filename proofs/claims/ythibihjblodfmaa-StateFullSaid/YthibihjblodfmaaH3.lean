/- Digests and their numbers: plain laws. No program in sight. -/
import Derived.Test.YthibihjblodfmaaH2
import Derived.Test.YthibihjblodfmaaO0
import Derived.Lib.EndianBits
import Derived.Deep.WholeRow
import Derived.Deep.MidRow
namespace Go.Proofs.Ythibihjblodfmaa
open Go.RowKit

def numG : List Int → Int
  | [] => 0
  | b :: l => b + 256 * numG l
structure DgOk (ds : List Int) : Prop where
  len : ds.length = 8
  byt : ByOk ds
def dgA (ds : List Int) : Array Value := (ds.map (Value.int .u8)).toArray
def fromG (n : Int) : List Int := (List.range 8).map fun i => n / 256 ^ i % 256

theorem numG_bound : ∀ (l : List Int), ByOk l → 0 ≤ numG l ∧ numG l < 256 ^ l.length
  | [], _ => by simp [numG]
  | b :: l, h => by
    obtain ⟨h1, h2⟩ := numG_bound l h.tail
    obtain ⟨h3, h4⟩ := h b (by simp)
    simp only [numG, List.length_cons, Int.pow_succ]
    omega
theorem numG_snoc : ∀ (l : List Int) (b : Int), numG (l ++ [b]) = numG l + b * 256 ^ l.length
  | [], b => by simp [numG]
  | x :: l, b => by
    have e : b * (256 ^ l.length * 256) = 256 * (b * 256 ^ l.length) := by rw [← Int.mul_assoc, Int.mul_comm]
    simp only [List.cons_append, numG, numG_snoc l b, List.length_cons, Int.pow_succ, e, Int.mul_add]
    omega
theorem pow256 : ∀ (k : Nat), (256 : Int) ^ k = 2 ^ (8 * k)
  | 0 => rfl
  | k + 1 => by rw [Int.pow_succ, pow256 k, Nat.mul_add, Int.pow_add]; rfl
theorem pow256_le {k m : Nat} (h : k ≤ m) : (256 : Int) ^ k ≤ 256 ^ m := by
  obtain ⟨d, rfl⟩ := Nat.le.dest h
  rw [Int.pow_add]
  have h1 : (0 : Int) < 256 ^ k := Int.pow_pos (by omega)
  have h2 : (1 : Int) ≤ 256 ^ d := by have : (0 : Int) < 256 ^ d := Int.pow_pos (by omega); omega
  calc (256 : Int) ^ k = 256 ^ k * 1 := by rw [Int.mul_one]
    _ ≤ 256 ^ k * 256 ^ d := Int.mul_le_mul_of_nonneg_left h2 (by omega)
/-- The program's step: a byte is laid in by 'or'. -/
theorem num_step {ds : List Int} (h : DgOk ds) {k : Nat} {b : Int} (hb : ds[k]? = some b) :
    bits .or .u64 (numG (ds.take k)) (IntKind.u64.wrap (b * 2 ^ (8 * k))) = numG (ds.take (k + 1)) := by
  have hk : k < 8 := by rw [← h.len]; exact (List.getElem?_eq_some_iff.1 hb).1
  obtain ⟨b0, b1⟩ := h.byt b (List.mem_of_getElem? hb)
  have hl : (ds.take k).length = k := by rw [List.length_take, h.len]; omega
  obtain ⟨n0, n1⟩ := numG_bound _ (h.byt.take k)
  rw [hl] at n1
  rw [take_snoc hb, numG_snoc, hl]
  have hp : (0 : Int) < 256 ^ k := Int.pow_pos (by omega)
  have hx0 : 0 ≤ b * 256 ^ k := Int.mul_nonneg b0 (by omega)
  have hx1 : b * 256 ^ k < 256 ^ 8 := by
    have h1 : b * 256 ^ k ≤ 255 * 256 ^ k := Int.mul_le_mul_of_nonneg_right (by omega) (by omega)
    have h2 : (256 : Int) ^ k ≤ 256 ^ 7 := pow256_le (by omega)
    have h3 : (256 : Int) ^ 7 * 256 = 256 ^ 8 := by rw [← Int.pow_succ]
    have h4 : (0 : Int) < 256 ^ 7 := Int.pow_pos (by omega)
    omega
  have e8 : (256 : Int) ^ 8 = 2 ^ 64 := by decide
  rw [← pow256, wraps_u64 _ hx0 (by rw [← e8]; exact hx1)]
  exact bits_join_low .u64 64 (by decide) wraps_u64 (8 * k) _ _ n0 (by rw [← pow256]; exact n1) (by rw [← e8]; exact Int.lt_of_lt_of_le n1 (pow256_le (by omega))) hx0 (by rw [← pow256]; exact Int.mul_emod_left _ _) (by rw [← e8]; exact hx1)

theorem num_step' {ds : List Int} (h : DgOk ds) {k : Nat} {b : Int} (hb : ds[k]? = some b) :
    IntKind.u64.wrap (IntKind.u64.wrap (numG (ds.drop (k + 1)) * 256) + b) = numG (ds.drop k) := by
  have hk : k < 8 := by rw [← h.len]; exact (List.getElem?_eq_some_iff.1 hb).1
  obtain ⟨b0, b1⟩ := h.byt b (List.mem_of_getElem? hb)
  obtain ⟨n0, n1⟩ := numG_bound _ (h.byt.drop (k + 1))
  obtain ⟨m0, m1⟩ := numG_bound _ (h.byt.drop k)
  rw [List.length_drop, h.len] at m1
  have e1 : numG (ds.drop k) = b + 256 * numG (ds.drop (k + 1)) := by rw [drop_cons hb, numG]
  have h2 : (256 : Int) ^ (8 - k) ≤ 256 ^ 8 := pow256_le (by omega)
  have e8 : (256 : Int) ^ 8 = 18446744073709551616 := by decide
  rw [e8] at h2
  rw [e1] at m0 m1 ⊢
  rw [IntKind.wrap_u64, IntKind.wrap_u64]
  omega
theorem fromG_len (n : Int) : (fromG n).length = 8 := by simp [fromG]
theorem fromG_get (n : Int) {k : Nat} (hk : k < 8) : (fromG n)[k]? = some (n / 256 ^ k % 256) := by simp [fromG, hk]
theorem fromG_ok (n : Int) : DgOk (fromG n) := ⟨fromG_len n, fun b hb => by
  simp only [fromG, List.mem_map] at hb
  obtain ⟨i, _, rfl⟩ := hb
  omega⟩
theorem from_step (n : Int) (k : Nat) (hk : k < 8) : IntKind.u8.wrap (n / 2 ^ min (8 * k) 64) = n / 256 ^ k % 256 := by
  rw [show min (8 * k) 64 = 8 * k by omega, ← pow256, IntKind.wrap_u8]
theorem from_step' (n : Int) (k : Nat) : n / 256 ^ k / 256 = n / 256 ^ (k + 1) := by
  have : (0 : Int) < 256 ^ k := Int.pow_pos (by omega)
  rw [Int.pow_succ, Int.ediv_ediv_of_nonneg (by omega)]
theorem bits_range (op : BinOp) (a b : Int) (h : op = .xor ∨ op = .or ∨ op = .and) : 0 ≤ bits op .u64 a b ∧ bits op .u64 a b < 18446744073709551616 := by
  rcases h with rfl | rfl | rfl <;> exact wrapU_nonneg _
theorem xorI_range (a b : Int) : 0 ≤ xorI a b ∧ xorI a b < 18446744073709551616 := bits_range _ _ _ (.inl rfl)
end Go.Proofs.Ythibihjblodfmaa
