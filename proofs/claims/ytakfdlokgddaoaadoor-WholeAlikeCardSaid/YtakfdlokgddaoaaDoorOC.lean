/- The document's numbers and bytes. The document's reader: the number that bytes begin with. The document's reader. The document's reader: bytes. Bytes as strings, compared. -/
import Derived.Test.YtakfdlokgddaoaaDoorOB
import Derived.Test.YtakfdlokgddaoaaDoorOA
/-! The document's numbers and bytes. -/
namespace Go.Proofs.YtakfdlokgddaoaaDoor
open Go.RowKit

end Go.Proofs.YtakfdlokgddaoaaDoor

/-! The document's reader: the number that bytes begin with. -/
namespace Go.Proofs.YtakfdlokgddaoaaDoor
open Go.RowKit

theorem pre_drop {bs : List Int} {j : Nat} {b : Int} (h : bs[j]? = some b) (m : Nat) : preB (m + 1) (bs.drop j) = b % 128 + 128 * preB m (bs.drop (j + 1)) := by
  rw [drop_cons h]; rfl
theorem pre_fit {bs : List Int} {k t : Nat} (hk : k ≤ 9) (ht : t ≤ k + 1) (hl : k < bs.length) (hb : ∀ b ∈ bs, 0 ≤ b ∧ b < 256) (h9 : k = 9 → bs.getD 9 0 ≤ 1) : 0 ≤ preB (k + 1 - t) (bs.drop t) ∧ preB (k + 1 - t) (bs.drop t) < 18446744073709551616 := by
  obtain ⟨h0, h1⟩ := pre_bound (k + 1 - t) (bs.drop t)
  refine ⟨h0, ?_⟩
  have e9 : (128 : Int) ^ 9 = 9223372036854775808 := by decide
  by_cases h : k + 1 - t = 10
  · obtain rfl : k = 9 := by omega
    obtain rfl : t = 0 := by omega
    rw [show 9 + 1 - 0 = 9 + 1 by rfl, List.drop_zero, pre_sum 9 bs hl]
    have ht := sum_top 9 bs hl
    have h2 := h9 rfl
    have h3 : bs.getD 9 0 % 128 + 1 ≤ 2 := by
      have : 0 ≤ bs.getD 9 0 := by
        rw [List.getD_eq_getElem?_getD, List.getElem?_eq_getElem hl]
        exact (hb _ (List.getElem_mem hl)).1
      omega
    have h4 : (128 : Int) ^ 9 * (bs.getD 9 0 % 128 + 1) ≤ 128 ^ 9 * 2 := Int.mul_le_mul_of_nonneg_left h3 (by decide)
    rw [e9] at h4 ht
    omega
  · have h2 : (128 : Int) ^ (k + 1 - t) ≤ 128 ^ 9 := pow128_le (by omega)
    omega
def RetL' (bs : List Int) (w : World) (e : Ending) (w' : World) : Prop :=
  e = .returned (.tuple #[.int .u64 (lookB bs).1, .int .i64 ((lookB bs).2.1 : Int), .int .i64 (lookB bs).2.2]) ∧ w = w'
end Go.Proofs.YtakfdlokgddaoaaDoor

/-! The document's reader. -/
namespace Go.Proofs.YtakfdlokgddaoaaDoor
open Go.RowKit

/-- A reader by value, its bytes below block B. -/
def RvAt (w : World) (B : Nat) (v : Value) (s : Rd) : Prop :=
  ∃ (A : Option Addr) (n c : Nat) (bs : List Int) (at_ : Nat), v = .agg #[.slice A n c, .int .i64 (at_ : Int), .int .i64 s.err] ∧ Sl w B 1 A n (bs.map (.int .u8)) ∧ ByOk bs ∧ at_ ≤ n ∧ n ≤ c ∧ n ≤ 1073741824 ∧ bs.drop at_ = s.rest
theorem RvAt.below {w w' : World} {B : Nat} {v : Value} {s : Rd} (h : RvAt w B v s) (hb : Below B w w') : RvAt w' B v s := by
  obtain ⟨A, n, c, bs, k, h1, h2, h3⟩ := h
  exact ⟨A, n, c, bs, k, h1, h2.below hb, h3⟩
theorem RvAt.more {w : World} {B B' : Nat} {v : Value} {s : Rd} (h : RvAt w B v s) (hb : B ≤ B') : RvAt w B' v s := by
  obtain ⟨A, n, c, bs, k, h1, h2, h3⟩ := h
  exact ⟨A, n, c, bs, k, h1, h2.more hb, h3⟩
theorem RvAt.ok {w : World} {B : Nat} {v : Value} {s : Rd} (h : RvAt w B v s) : ByOk s.rest := by
  obtain ⟨A, n, c, bs, k, h1, h2, h3, _, _, _, h4⟩ := h
  rw [← h4]; exact h3.drop _
theorem RvAt.rest_le {w : World} {B : Nat} {v : Value} {s : Rd} (h : RvAt w B v s) : s.rest.length ≤ 1073741824 := by
  obtain ⟨A, n, c, bs, k, h1, h2, h3, _, _, hn, h4⟩ := h
  rw [← h4, List.length_drop, h2.length]; omega
theorem RvAt.new {w : World} {B : Nat} {A : Option Addr} {n c : Nat} {bs : List Int} (hs : Sl w B 1 A n (bs.map (.int .u8))) (ho : ByOk bs) (hn : n ≤ 1073741824) (hc : n ≤ c) : RvAt w B (.agg #[.slice A n c, .int .i64 0, .int .i64 0]) ⟨bs, 0⟩ :=
  ⟨A, n, c, bs, 0, rfl, hs, ho, by omega, hc, hn, rfl⟩

/-- What a read of a number hands back. -/
def RetRN (B : Nat) (p : Rd × Int) (w : World) (e : Ending) (w' : World) : Prop := ∃ v, e = .returned (.tuple #[v, .int .u64 p.2]) ∧ RvAt w' B v p.1 ∧ Below w.heap.size w w'
theorem RetRN.mk {w w' : World} {B : Nat} {p q : Rd × Int} {v : Value} (hq : p = q) (hv : RvAt w B v q.1) (hB : B ≤ w.heap.size) (hb : Below w.heap.size w w') : RetRN B p w (.returned (.tuple #[v, .int .u64 q.2])) w' := by
  subst hq; exact ⟨v, rfl, hv.below (hb.mono hB), hb⟩
end Go.Proofs.YtakfdlokgddaoaaDoor

/-! The document's reader: bytes. -/
namespace Go.Proofs.YtakfdlokgddaoaaDoor
open Go.RowKit

theorem cells3 {w : World} {g : Nat} {t : TypeId} {a b c : Value} (h : Bk w g t [a, b, c]) :
    w.cell? ⟨g, 0, none⟩ = some a ∧ w.cell? ⟨g, 1, none⟩ = some b ∧ w.cell? ⟨g, 2, none⟩ = some c := ⟨by rw [h.cell]; rfl, by rw [h.cell]; rfl, by rw [h.cell]; rfl⟩
theorem free3 {w : World} {g : Nat} {t : TypeId} {a b c : Value} (h : Bk w g t [a, b, c]) :
    w.frozen? ⟨g, 0, none⟩ = false ∧ w.frozen? ⟨g, 1, none⟩ = false ∧ w.frozen? ⟨g, 2, none⟩ = false := ⟨h.frozen 0, h.frozen 1, h.frozen 2⟩
/-- What a read of bytes hands back. -/
def RetRY (B : Nat) (p : Rd × List Int) (w : World) (e : Ending) (w' : World) : Prop :=
  ∃ v b, e = .returned (.tuple #[v, b]) ∧ RvAt w' B v p.1 ∧ w'.ownsRow w.heap.size 5 1 b p.2.length (p.2.map (.int .u8)) ∧ Below w.heap.size w w'
theorem RetRY.mk {w w' : World} {B : Nat} {p q : Rd × List Int} {v b : Value} (hq : p = q) (hv : RvAt w B v q.1) (hB : B ≤ w.heap.size) (ho : w'.ownsRow w.heap.size 5 1 b q.2.length (q.2.map (.int .u8))) (hb : Below w.heap.size w w') : RetRY B p w (.returned (.tuple #[v, b])) w' := by
  subst hq; exact ⟨v, b, rfl, hv.below (hb.mono hB), ho, hb⟩
end Go.Proofs.YtakfdlokgddaoaaDoor

/-! Bytes as strings, compared. -/
namespace Go.Proofs.YtakfdlokgddaoaaDoor
open Go.RowKit

def strOf (bs : List Int) : ByteArray := ⟨(bs.map fun b => UInt8.ofNat b.toNat).toArray⟩
theorem strOf_list (bs : List Int) : (strOf bs).toList = bs.map fun b => UInt8.ofNat b.toNat := by rw [ByteArray.toList_eq]; simp [strOf]
theorem strOf_inj : ∀ (xs ys : List Int), ByOk xs → ByOk ys → (xs.map fun b => UInt8.ofNat b.toNat) = (ys.map fun b => UInt8.ofNat b.toNat) → xs = ys
  | [], [], _, _, _ => rfl
  | [], _ :: _, _, _, h => by simp at h
  | _ :: _, [], _, _, h => by simp at h
  | x :: xs, y :: ys, hx, hy, h => by
    rw [List.map_cons, List.map_cons, List.cons.injEq] at h
    obtain ⟨x0, x1⟩ := hx x (by simp)
    obtain ⟨y0, y1⟩ := hy y (by simp)
    have h1 := congrArg UInt8.toNat h.1
    have e1 : (UInt8.ofNat x.toNat).toNat = x.toNat := UInt8.toNat_ofNat_of_lt' (by show x.toNat < 256; omega)
    have e2 : (UInt8.ofNat y.toNat).toNat = y.toNat := UInt8.toNat_ofNat_of_lt' (by show y.toNat < 256; omega)
    rw [e1, e2] at h1
    rw [strOf_inj xs ys hx.tail hy.tail h.2, show x = y by omega]
theorem strOf_beq (xs ys : List Int) (hx : ByOk xs) (hy : ByOk ys) : ((strOf xs).toList == (strOf ys).toList) = eqL xs ys := by
  rw [strOf_list, strOf_list, eqL]
  by_cases h : xs = ys
  · subst h; simp
  · rw [decide_eq_false h]
    exact beq_false_of_ne fun e => h (strOf_inj xs ys hx hy e)
theorem fold_str (bs : List Int) : ∀ s : ByteArray, bs.foldl (fun r n => r.push (UInt8.ofNat n.toNat)) s = ⟨(s.data.toList ++ bs.map fun b => UInt8.ofNat b.toNat).toArray⟩ := by
  induction bs with
  | nil => intro s; simp
  | cons b bs ih =>
    intro s
    rw [List.foldl_cons, ih]
    simp [ByteArray.push]
theorem conv_any (w : World) (B : Nat) (A : Option Addr) (n c : Nat) (bs : List Int) (hs : Sl w B 1 A n (bs.map (.int .u8))) :
    (convert 29 9 (.slice A n c)).run Tryd.prog w = .ok (.string (strOf bs)) w := by
  rw [run_convert_bytes_string _ _ _ 5 _ _ _ Tryd.underlying29 Tryd.underlying5 Tryd.underlying9]
  have hl := hs.length
  cases A with
  | none =>
    have h0 : n = 0 := by
      rcases Nat.eq_zero_or_pos n with h0 | h0
      · exact h0
      · obtain ⟨_, h, _⟩ := hs.mem h0; cases h
    obtain rfl : bs = [] := List.eq_nil_of_length_eq_zero (by omega)
    rfl
  | some ad =>
    have hc : ∀ (j : Nat) (u : Value), (bs.map (Value.int .u8))[j]? = some u → w.cell? (ad.add j) = some u := fun j u hu => by
      have hj : j < n := by have := (List.getElem?_eq_some_iff.1 hu).1; simp [hl] at this; exact this
      obtain ⟨ad', e, _, hcc⟩ := hs.mem (by omega)
      injection e with e; subst e
      exact hcc j u hu
    have h2 := run_loadCells_list (P := Tryd.prog) w ad (bs.map (Value.int .u8)) hc
    rw [List.length_map, hl] at h2
    rw [run_bytesToString (P := Tryd.prog) w ad n c bs h2, fold_str]
    rfl

end Go.Proofs.YtakfdlokgddaoaaDoor
