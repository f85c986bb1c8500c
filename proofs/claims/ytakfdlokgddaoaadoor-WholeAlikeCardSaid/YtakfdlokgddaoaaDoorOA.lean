/- Bytes: lists of numbers below 256; those of a string. Numbers in bytes, seven bits each: the plain law. Numbers and bytes put behind others: the walks of package octet. Numbers with a sign, and texts, put behind others. What bytes begin with: the walk of octet.look. -/
import Derived.Test.YtakfdlokgddaoaaDoorLib2
import Derived.Lib.ConvBytes
import Derived.Test.YtakfdlokgddaoaaDoorRows
import Derived.BigGuardPart
import Derived.Deep.Light
import Derived.Deep.QuietTactic
import Derived.BigQuiet
import Derived.Lib.AppendStr
import Derived.Lib.EndianBits
/-! Bytes: lists of numbers below 256; those of a string. -/
namespace Go.Proofs.YtakfdlokgddaoaaDoor
open Go.RowKit

def zeroD : List Int := List.replicate 8 0
def ByOk (ds : List Int) : Prop := ∀ b ∈ ds, 0 ≤ b ∧ b < 256
theorem ByOk.tail {b : Int} {l : List Int} (h : ByOk (b :: l)) : ByOk l := fun x hx => h x (by simp [hx])
theorem ByOk.take {l : List Int} (h : ByOk l) (k : Nat) : ByOk (l.take k) := fun x hx => h x (List.mem_of_mem_take hx)
theorem ByOk.drop {l : List Int} (h : ByOk l) (k : Nat) : ByOk (l.drop k) := fun x hx => h x (List.mem_of_mem_drop hx)
theorem Tryd.infoU8 : (Tryd.prog.info? 5).map (fun i => (i.zero, i.size, i.bytes)) = some (some (.int .u8 0), 1, 1) := by kernel_rfl
def bytesOf (s : ByteArray) : List Int := s.data.toList.map fun c => (c.toNat : Int)
theorem bytesOf_len (s : ByteArray) : (bytesOf s).length = s.size := by simp [bytesOf]
theorem bytesOf_ok (s : ByteArray) : ByOk (bytesOf s) := fun b hb => by
  simp only [bytesOf, List.mem_map] at hb
  obtain ⟨c, _, rfl⟩ := hb
  have := c.toNat_lt
  omega
theorem below_bytes (W : World) (e : TypeId) (s : ByteArray) : Below W.heap.size W (Lib.bytesWorld W e s) :=
  ⟨rfl, rfl, rfl, by rw [Lib.bytesWorld_size]; omega, fun j hj => Lib.bytesWorld_at_old W e s j hj⟩
theorem sl_bytes (W : World) (e : TypeId) (s : ByteArray) (hs : s.size ≤ 9223372036854775807) :
    Sl (Lib.bytesWorld W e s) (Lib.bytesWorld W e s).heap.size 1 (some ⟨W.heap.size, 0, none⟩) s.size ((bytesOf s).map (.int .u8)) :=
  ⟨by simp [bytesOf_len], hs, fun _ => ⟨_, rfl, by rw [Lib.bytesWorld_size]; exact Nat.lt_succ_self _, fun j u hu => by
    have hj : j < s.size := by have := (List.getElem?_eq_some_iff.1 hu).1; simpa [bytesOf_len] using this
    rw [add_plain, Nat.zero_add, Lib.bytesWorld_cell W e s j hj]
    have hl : j < s.data.toList.length := by simpa using hj
    rw [List.getElem?_map, bytesOf, List.getElem?_map, List.getElem?_eq_getElem hl] at hu
    rw [List.getD_eq_getElem?_getD, List.getElem?_eq_getElem hl]
    simpa using hu⟩⟩
/-- A slice that lies apart from the one block that turns. -/
theorem sl_apart {w w' : World} {size n ga : Nat} {A : Option Addr} {xs : List Value} (h : Sl w w.heap.size size A n xs) (hg : w.grownBy w' (some ga)) (ha : ∀ ad, A = some ad → ad.block ≠ ga) : Sl w' w'.heap.size size A n xs :=
  ⟨h.len, h.le, fun hn => by
    obtain ⟨ad, e, hb, hc⟩ := h.mem hn
    exact ⟨ad, e, Nat.lt_of_lt_of_le hb hg.size, fun j u hu => (World.cell?_of_block (hg.block _ (by rw [add_block]; exact hb) (by rw [add_block]; intro h; injection h with h; exact ha ad e h))).trans (hc j u hu)⟩⟩
end Go.Proofs.YtakfdlokgddaoaaDoor

/-! Numbers in bytes, seven bits each: the plain law. -/
namespace Go.Proofs.YtakfdlokgddaoaaDoor

/-- The bytes of a number, at most f of them but the last one. -/
def numF : Nat → Nat → List Int
  | 0, n => [(n : Int)]
  | f + 1, n => if n < 128 then [(n : Int)] else ((n % 128 + 128 : Nat) : Int) :: numF f (n / 128)
/-- The bytes of a number below 2^64. -/
def numB (n : Nat) : List Int := numF 9 n
theorem numF_small {f n : Nat} (h : n < 128) : numF f n = [(n : Int)] := by cases f <;> simp [numF, h]
theorem numF_big {f n : Nat} (h : 128 ≤ n) : numF (f + 1) n = ((n % 128 + 128 : Nat) : Int) :: numF f (n / 128) := by rw [numF, if_neg (by omega)]
theorem numF_len : ∀ f n, 1 ≤ (numF f n).length ∧ (numF f n).length ≤ f + 1
  | 0, n => by simp [numF]
  | f + 1, n => by
    by_cases h : n < 128
    · rw [numF_small h]; simp
    · rw [numF_big (by omega), List.length_cons]
      have := numF_len f (n / 128)
      omega
/-- How many bytes ahead have the mark 128, of the first ten. -/
def runB : Nat → List Int → Nat
  | 0, _ => 0
  | _, [] => 0
  | f + 1, b :: bs => if b < 128 then 0 else 1 + runB f bs
/-- The number of k + 1 bytes. -/
def sumB : Nat → List Int → Int
  | _, [] => 0
  | 0, b :: _ => b % 128
  | k + 1, b :: bs => b % 128 + 128 * sumB k bs
/-- What bytes begin with: the number, how many bytes it has, the error (0, 3 form, 4 short). -/
def lookB (bs : List Int) : Int × Nat × Int :=
  let k := runB 10 bs
  if k = bs.length ∧ k < 10 then (0, 0, 4)
  else if k = 10 ∨ (0 < k ∧ bs.getD k 0 = 0) ∨ (k = 9 ∧ 1 < bs.getD 9 0) then (0, 0, 3)
  else (sumB k bs, k + 1, 0)
theorem run_num : ∀ (f n F : Nat) (rest : List Int), n < 128 ^ (f + 1) → f < F → runB F (numF f n ++ rest) = (numF f n).length - 1
  | 0, n, F + 1, rest, hn, _ => by
    rw [numF_small (by omega)]
    show (if (n : Int) < 128 then 0 else _) = _
    rw [if_pos (by omega)]; rfl
  | f + 1, n, F + 1, rest, hn, hF => by
    by_cases h : n < 128
    · rw [numF_small h]
      show (if (n : Int) < 128 then 0 else _) = _
      rw [if_pos (by omega)]; rfl
    · rw [numF_big (by omega)]
      show (if ((n % 128 + 128 : Nat) : Int) < 128 then 0 else 1 + runB F (numF f (n / 128) ++ rest)) = _
      rw [if_neg (by omega), run_num f (n / 128) F rest (Nat.div_lt_of_lt_mul (by rw [Nat.pow_succ, Nat.mul_comm] at hn; exact hn)) (by omega), List.length_cons]
      have := numF_len f (n / 128)
      omega
theorem sum_num : ∀ (f n : Nat) (rest : List Int), n < 128 ^ (f + 1) → sumB ((numF f n).length - 1) (numF f n ++ rest) = n
  | 0, n, rest, hn => by
    rw [numF_small (by omega)]
    show (n : Int) % 128 = n
    omega
  | f + 1, n, rest, hn => by
    by_cases h : n < 128
    · rw [numF_small h]
      show (n : Int) % 128 = n
      omega
    · rw [numF_big (by omega), List.length_cons]
      have hl := numF_len f (n / 128)
      obtain ⟨k, hk⟩ : ∃ k, (numF f (n / 128)).length = k + 1 := ⟨(numF f (n / 128)).length - 1, by omega⟩
      have ih := sum_num f (n / 128) rest (Nat.div_lt_of_lt_mul (by rw [Nat.pow_succ, Nat.mul_comm] at hn; exact hn))
      rw [hk] at ih ⊢
      show ((n % 128 + 128 : Nat) : Int) % 128 + 128 * sumB k (numF f (n / 128) ++ rest) = n
      rw [show k + 1 - 1 = k from rfl] at ih
      rw [ih]
      omega
theorem num_ok : ∀ (f n : Nat), n < 128 ^ (f + 1) → ∀ b ∈ numF f n, 0 ≤ b ∧ b < 256
  | 0, n, hn, b, hb => by
    rw [numF_small (by omega)] at hb
    simp at hb; subst hb; omega
  | f + 1, n, hn, b, hb => by
    by_cases h : n < 128
    · rw [numF_small h] at hb
      simp at hb; subst hb; omega
    · rw [numF_big (by omega), List.mem_cons] at hb
      rcases hb with rfl | hb
      · omega
      · exact num_ok f (n / 128) (Nat.div_lt_of_lt_mul (by rw [Nat.pow_succ, Nat.mul_comm] at hn; exact hn)) b hb
/-- The last byte of a number that has more than one is not 0. -/
theorem num_last : ∀ (f n : Nat) (rest : List Int), 0 < n → (numF f n ++ rest).getD ((numF f n).length - 1) 0 ≠ 0
  | 0, n, rest, hn => by
    show (n : Int) ≠ 0
    omega
  | f + 1, n, rest, hn => by
    by_cases h : n < 128
    · rw [numF_small h]
      show (n : Int) ≠ 0
      omega
    · rw [numF_big (by omega), List.length_cons]
      have hl := numF_len f (n / 128)
      obtain ⟨k, hk⟩ : ∃ k, (numF f (n / 128)).length = k + 1 := ⟨(numF f (n / 128)).length - 1, by omega⟩
      have ih := num_last f (n / 128) rest (by omega)
      rw [hk] at ih ⊢
      exact ih
theorem num_top : ∀ (f n : Nat) (rest : List Int), n < 128 ^ (f + 1) → (numF f n).length = f + 1 → (numF f n ++ rest).getD f 0 = ((n / 128 ^ f : Nat) : Int)
  | 0, n, rest, hn, _ => by
    rw [Nat.pow_zero, Nat.div_one]; rfl
  | f + 1, n, rest, hn, hl => by
    by_cases h : n < 128
    · rw [numF_small h] at hl; simp at hl
    · rw [numF_big (by omega), List.length_cons] at hl
      have ih := num_top f (n / 128) rest (Nat.div_lt_of_lt_mul (by rw [Nat.pow_succ, Nat.mul_comm] at hn; exact hn)) (by omega)
      rw [numF_big (by omega), Nat.pow_succ, Nat.mul_comm, ← Nat.div_div_eq_div_mul]
      exact ih
/-- What a number's bytes begin with is that number. -/
theorem look_num (n : Nat) (hn : n < 18446744073709551616) (rest : List Int) : lookB (numB n ++ rest) = ((n : Int), (numB n).length, 0) := by
  have h128 : n < 128 ^ (9 + 1) := Nat.lt_of_lt_of_le hn (by decide)
  have hl := numF_len 9 n
  have hr : runB 10 (numB n ++ rest) = (numB n).length - 1 := run_num 9 n 10 rest h128 (by decide)
  have hs : sumB ((numB n).length - 1) (numB n ++ rest) = n := sum_num 9 n rest h128
  have hlen : (numB n ++ rest).length = (numB n).length + rest.length := List.length_append
  have hb : 1 ≤ (numB n).length ∧ (numB n).length ≤ 10 := hl
  unfold lookB
  rw [hr]
  simp only
  rw [if_neg (by omega), if_neg, hs, show (numB n).length - 1 + 1 = (numB n).length by omega]
  rintro (h | ⟨h, h0⟩ | ⟨h, h1⟩)
  · omega
  · have hn0 : 0 < n := by
      rcases Nat.eq_zero_or_pos n with rfl | h0
      · rw [show (numB 0).length = 1 from rfl] at h; omega
      · exact h0
    exact num_last 9 n rest hn0 h0
  · have := num_top 9 n rest h128 (show (numB n).length = 9 + 1 by omega)
    rw [show (numB n ++ rest).getD 9 0 = ((n / 128 ^ 9 : Nat) : Int) from this] at h1
    have h2 : n / 128 ^ 9 < 2 := Nat.div_lt_of_lt_mul (Nat.lt_of_lt_of_le hn (by decide))
    omega
theorem sumB_nonneg : ∀ (k : Nat) (bs : List Int), 0 ≤ sumB k bs
  | 0, [] => Int.le_refl _
  | k + 1, [] => Int.le_refl _
  | 0, b :: bs => by show 0 ≤ b % 128; omega
  | k + 1, b :: bs => by
    show 0 ≤ b % 128 + 128 * sumB k bs
    have := sumB_nonneg k bs
    omega
/-- Bytes that a number begins with are that number's. -/
theorem back_num : ∀ (k : Nat) (bs : List Int) (F f : Nat), runB F bs = k → k < F → k < bs.length → (0 < k → bs.getD k 0 ≠ 0) → (∀ b ∈ bs, 0 ≤ b ∧ b < 256) → k ≤ f → numF f (sumB k bs).toNat = bs.take (k + 1)
  | _, [], _, _, _, _, hl, _, _, _ => by simp at hl
  | _, _ :: _, 0, _, _, hF, _, _, _, _ => by omega
  | 0, b :: bs, F + 1, f, hr, _, _, _, hok, _ => by
    have hb := hok b (by simp)
    have h1 : b < 128 := by
      by_cases h : b < 128
      · exact h
      · have : (if b < 128 then 0 else 1 + runB F bs) = 0 := hr
        rw [if_neg h] at this; omega
    show numF f (b % 128).toNat = [b]
    rw [numF_small (by omega)]
    congr 1
    omega
  | k + 1, b :: bs, F + 1, 0, _, _, _, _, _, hf => by omega
  | k + 1, b :: bs, F + 1, f + 1, hr, hF, hl, h0, hok, hf => by
    have hb := hok b (by simp)
    have hr' : (if b < 128 then 0 else 1 + runB F bs) = k + 1 := hr
    have h1 : ¬ b < 128 := by
      intro h
      rw [if_pos h] at hr'; omega
    rw [if_neg h1] at hr'
    have hd : bs.getD k 0 ≠ 0 := h0 (by omega)
    have ih := back_num k bs F f (by omega) (by omega) (by simpa using hl) (fun _ => hd) (fun x hx => hok x (by simp [hx])) (by omega)
    have hS := sumB_nonneg k bs
    have hS0 : sumB k bs ≠ 0 := by
      intro h
      rw [h, show (0 : Int).toNat = 0 from rfl, numF_small (by decide)] at ih
      have hlk : (bs.take (k + 1)).length = k + 1 := by rw [List.length_take]; simp at hl; omega
      rw [← ih] at hlk
      obtain rfl : k = 0 := by simpa using hlk.symm
      apply hd
      rw [List.getD_eq_getElem?_getD, show bs[0]? = (bs.take (0 + 1))[0]? by rw [List.getElem?_take]; simp, ← ih]
      rfl
    show numF (f + 1) (b % 128 + 128 * sumB k bs).toNat = b :: bs.take (k + 1)
    rw [numF_big (by omega), ← ih]
    congr 1
    · omega
    · congr 1
      omega
theorem runB_le : ∀ (F : Nat) (bs : List Int), runB F bs ≤ F ∧ runB F bs ≤ bs.length
  | 0, _ => ⟨Nat.le_refl _, Nat.zero_le _⟩
  | F + 1, [] => ⟨Nat.zero_le _, Nat.le_refl _⟩
  | F + 1, b :: bs => by
    show (if b < 128 then 0 else 1 + runB F bs) ≤ F + 1 ∧ (if b < 128 then 0 else 1 + runB F bs) ≤ (b :: bs).length
    have := runB_le F bs
    rw [List.length_cons]
    split <;> omega
theorem sum_top : ∀ (k : Nat) (bs : List Int), k < bs.length → sumB k bs < 128 ^ k * (bs.getD k 0 % 128 + 1)
  | _, [], h => by simp at h
  | 0, b :: bs, _ => by
    show b % 128 < 128 ^ 0 * (b % 128 + 1)
    omega
  | k + 1, b :: bs, h => by
    have ih := sum_top k bs (by simpa using h)
    show b % 128 + 128 * sumB k bs < 128 ^ (k + 1) * (bs.getD k 0 % 128 + 1)
    rw [Int.pow_succ, Int.mul_comm (128 ^ k) 128, Int.mul_assoc]
    generalize (128 : Int) ^ k * (bs.getD k 0 % 128 + 1) = M at ih
    omega
/-- Bytes in which a number is looked up begin with that number's bytes. -/
theorem look_back (bs : List Int) (v : Int) (s : Nat) (hok : ∀ b ∈ bs, 0 ≤ b ∧ b < 256) (h : lookB bs = (v, s, 0)) :
    0 ≤ v ∧ v < 18446744073709551616 ∧ 1 ≤ s ∧ s ≤ bs.length ∧ bs.take s = numB v.toNat := by
  have hle := runB_le 10 bs
  unfold lookB at h
  obtain ⟨k, hk⟩ : ∃ k, runB 10 bs = k := ⟨_, rfl⟩
  rw [hk] at h hle
  simp only at h
  by_cases c1 : k = bs.length ∧ k < 10
  · rw [if_pos c1] at h; simp at h
  · rw [if_neg c1] at h
    by_cases c2 : k = 10 ∨ (0 < k ∧ bs.getD k 0 = 0) ∨ (k = 9 ∧ 1 < bs.getD 9 0)
    · rw [if_pos c2] at h; simp at h
    · rw [if_neg c2] at h
      simp only [Prod.mk.injEq] at h
      obtain ⟨rfl, rfl, -⟩ := h
      have hk9 : k ≤ 9 := by
        have : k ≠ 10 := fun e => c2 (.inl e)
        omega
      have hkl : k < bs.length := by
        have : k ≠ bs.length := fun e => c1 ⟨e, by omega⟩
        omega
      have hb := back_num k bs 10 9 hk (by omega) hkl (fun h0 h1 => c2 (.inr (.inl ⟨h0, h1⟩))) hok hk9
      refine ⟨sumB_nonneg _ _, ?_, by omega, by omega, hb.symm⟩
      have ht := sum_top k bs hkl
      by_cases h9 : k = 9
      · subst h9
        have h1 : ¬ 1 < bs.getD 9 0 := fun h1 => c2 (.inr (.inr ⟨rfl, h1⟩))
        have hm : bs.getD 9 0 ∈ bs := by
          rw [List.getD_eq_getElem?_getD, List.getElem?_eq_getElem hkl]
          exact List.getElem_mem hkl
        have h2 := hok _ hm
        generalize bs.getD 9 0 = c at ht h1 h2
        omega
      · have h2 : bs.getD k 0 % 128 + 1 ≤ 128 := by omega
        have h3 : (128 : Int) ^ k ≤ 128 ^ 8 := by
          have : k ≤ 8 := by omega
          have h4 : (128 : Nat) ^ k ≤ 128 ^ 8 := Nat.pow_le_pow_right (by decide) this
          exact_mod_cast h4
        have h5 : (128 : Int) ^ k * (bs.getD k 0 % 128 + 1) ≤ 128 ^ 8 * 128 := Int.mul_le_mul h3 h2 (by omega) (by decide)
        have h6 : (128 : Int) ^ 8 * 128 < 18446744073709551616 := by decide
        omega
end Go.Proofs.YtakfdlokgddaoaaDoor

/-! Numbers and bytes put behind others: the walks of package octet. -/
namespace Go.Proofs.YtakfdlokgddaoaaDoor
open Go.RowKit

theorem or128 {x : Int} (h0 : 0 ≤ x) (h1 : x < 256) : bits .or .u8 x 128 = x % 128 + 128 := by
  have H : ∀ k : Fin 256, bits .or .u8 (k.val : Int) 128 = (k.val : Int) % 128 + 128 := by decide +kernel
  have := H ⟨x.toNat, by omega⟩
  rwa [show ((⟨x.toNat, by omega⟩ : Fin 256).val : Int) = x by simp; omega] at this

/-- Bytes that are owned, and what is below stays. -/
def OwnB (base : Nat) (bs : List Int) (w : World) (v : Value) (w' : World) : Prop :=
  w'.ownsRow base 5 1 v bs.length (bs.map (.int .u8)) ∧ Below base w w'
def RetB (base : Nat) (bs : List Int) (w : World) (e : Ending) (w' : World) : Prop := ∃ v, e = .returned v ∧ OwnB base bs w v w'

set_option maxRecDepth 20000 in
theorem number_any (w : World) (base : Nat) (v : Value) (xs : List Int) (hown : w.ownsRow base 5 1 v xs.length (xs.map (.int .u8))) (hbase : base ≤ w.heap.size) (n : Nat) (hn : Hid (n < 18446744073709551616)) (hk : xs.length ≤ 1099511627776) :
    Calls Tryd.prog 55 #[v, .int .u64 n] w (RetB base (xs ++ numB n) w) := by
  obtain ⟨i0, hi, hi0, hi1, hi2⟩ := info_parts Tryd.infoU8
  have HO := Lib.hid hown; have HN := hn
  clear hown hn
  go_enter Tryd.func55, Tryd.ntmps55
  go_wp2_with fail
  go_loopw [0, 1] (fun vs ns wr => ∃ (done : List Int) (f m : Nat), f + done.length = 9 ∧ ns = .int .u64 m ∧ Hid (m < 128 ^ (f + 1)) ∧ Hid (done ++ numF f m = numB n) ∧ Hid (wr.ownsRow base 5 1 vs (xs ++ done).length ((xs ++ done).map (.int .u8))) ∧ Hid (Below base w wr)) (fun _ ns _ => (intOf ns).toNat)
  case atStart => exact ⟨[], 9, n, rfl, rfl, (by have := HN.out; show n < 128 ^ 10; omega), by show [] ++ numF 9 n = numB n; rfl, by rw [List.append_nil]; exact HO.out, Below.refl _ _⟩
  case round =>
    obtain ⟨done, f, m, hf, rfl, HM, HD, HOW, HB⟩ := hrel
    have hfd : done.length ≤ 9 := by omega
    obtain ⟨L, hL⟩ : ∃ L, (xs ++ done).length = L := ⟨_, rfl⟩
    have hLk : L ≤ xs.length + 9 := by rw [← hL, List.length_append]; omega
    rw [hL] at HOW
    have HL := Lib.hid hL
    have hsz := Nat.le_trans hbase HB.out.size
    clear hL
    by_cases hlt : 128 ≤ m
    · have hm1 : decide ((128 : Int) ≤ (m : Int)) = true := by simp; omega
      have hm2 : (128 : Int) ≤ (m : Int) := by omega
      obtain ⟨f', rfl⟩ : ∃ f', f = f' + 1 := ⟨f - 1, by rcases Nat.eq_zero_or_pos f with rfl | h; · have := HM.out; omega
                                                        · omega⟩
      have hx : bits .or .u8 ((m : Int) % 256) 128 = ((m % 128 + 128 : Nat) : Int) := by rw [or128 (by omega) (by omega)]; omega
      have HX := Lib.hid hx
      clear hx
      go_wp2_with (at_builtin; refine wpList_app _ rfl (.tmp 7) (.tmp 11) 29 rfl base 5 i0 (.int .u8 0) 1 1 Tryd.underlying29 hi hi0 hi1 hi2 rfl (by decide) u0 L ((xs ++ done).map (.int .u8)) rfl (HOW.out.alloc _) _ _ 1 1 [.int .u8 (bits .or .u8 ((m : Int) % 256) 128)] rfl (sl_new wr #[.int .u8 (bits .or .u8 ((m : Int) % 256) 128)] 5 1 1 rfl (by omega)) (by simp [Value.oneCell']) (by unfold maxLen; omega) (by omega) (by simp; omega) ?_; intro v1 w3 hown1 hg1 hat1; have hb3 := grown_below (HB.out.alloc hsz (.cells #[.int .u8 (bits .or .u8 ((m : Int) % 256) 128)] 5)) (HOW.out.alloc _) hg1 (Nat.le_refl _) (by simp; omega); have HO3 := Lib.hid hown1; have HB3 := Lib.hid hb3; clear hown1 hg1 hat1 hb3)
      go_roundw
      case rel =>
        refine ⟨done ++ [((m % 128 + 128 : Nat) : Int)], f', m / 128, by simp; omega, by go_num, ?_, ?_, ?_, HB3⟩
        · have := HM.out
          show _ < _
          exact Nat.div_lt_of_lt_mul (by rw [Nat.pow_succ, Nat.mul_comm] at this; exact this)
        · show _ = _
          rw [← HD.out, numF_big hlt, List.append_assoc]; rfl
        · have := HO3.out
          rw [HX.out] at this
          show World.ownsRow _ _ _ _ _ _ _
          rw [← List.append_assoc, List.length_append, List.map_append, HL.out]
          exact this
      case measure => simp [intOf]; omega
    · have hm1 : decide ((128 : Int) ≤ (m : Int)) = false := by simp; omega
      have hm2 : (m : Int) < 128 := by omega
      have hfin : done ++ [(m : Int)] = numB n := by rw [← HD.out, numF_small (by omega)]
      have HF := Lib.hid hfin
      clear hfin
      go_wp2_with (at_builtin; refine wpList_app _ rfl (.tmp 15) (.tmp 18) 29 rfl base 5 i0 (.int .u8 0) 1 1 Tryd.underlying29 hi hi0 hi1 hi2 rfl (by decide) u0 L ((xs ++ done).map (.int .u8)) rfl (HOW.out.alloc _) _ _ 1 1 [.int .u8 (m : Int)] rfl (sl_new wr #[.int .u8 (m : Int)] 5 1 1 rfl (by omega)) (by simp [Value.oneCell']) (by unfold maxLen; omega) (by omega) (by simp; omega) ?_; intro v1 w3 hown1 hg1 hat1; have hb3 := grown_below (HB.out.alloc hsz (.cells #[.int .u8 (m : Int)] 5)) (HOW.out.alloc _) hg1 (Nat.le_refl _) (by simp; omega); have HO3 := Lib.hid hown1; have HB3 := Lib.hid hb3; clear hown1 hg1 hat1 hb3)
      go_ret
      refine ⟨_, rfl, ?_, HB3.out⟩
      have := HO3.out
      rw [← HF.out, ← List.append_assoc, List.length_append, List.map_append, HL.out]
      exact this

set_option maxRecDepth 20000 in
theorem fresh_any (w : World) (A : Option Addr) (n c : Nat) (bs : List Int) (hs : Sl w w.heap.size 1 A n (bs.map (.int .u8))) (m : Nat) (hn : n ≤ 1099511627776) (hm : m ≤ 1099511627776) :
    Calls Tryd.prog 56 #[.slice A n c, .int .i64 m] w (RetB w.heap.size bs w) := by
  obtain ⟨i0, hi, hi0, hi1, hi2⟩ := info_parts Tryd.infoU8
  have hlen := hs.length
  have HS := Lib.hid hs; have HL := Lib.hid hlen
  clear hs hlen
  go_enter Tryd.func56, Tryd.ntmps56
  go_wp2_with (first
    | (at_make; refine wpList_make_own _ rfl _ _ 29 rfl w.heap.size 5 i0 (.int .u8 0) 1 Tryd.underlying29 hi hi0 hi1 .i64 .i64 _ (n + m) rfl rfl (by omega) (by rw [hi2]; omega) (by unfold maxLen; omega) (Nat.le_refl _) ?_; intro w1 hown1 hg1; have hb1 := (Below.refl w.heap.size w).grown hg1 (Nat.le_refl _) (fun k hk => by cases hk); have HO1 := Lib.hid hown1; have HB1 := Lib.hid hb1; have HS1 := Lib.hid (HS.out.below HB1.out); clear hown1 hg1 hb1)
    | (at_builtin; refine wpList_app _ rfl (.tmp 9) (.tmp 10) 29 rfl w.heap.size 5 i0 (.int .u8 0) 1 1 Tryd.underlying29 hi hi0 hi1 hi2 rfl (by decide) _ 0 [] rfl HO1.out _ _ n c (bs.map (.int .u8)) rfl HS1.out (ints_one _ _) (by unfold maxLen; omega) (by omega) HB1.out.size ?_; intro v2 w2 hown2 hg2 hat2; have hb2 := grown_below HB1.out HO1.out hg2 (Nat.le_refl _) HB1.out.size; have HO2 := Lib.hid hown2; have HB2 := Lib.hid hb2; clear hown2 hg2 hb2 hat2))
  go_ret
  have := HO2.out
  rw [Nat.zero_add, List.nil_append, ← HL.out] at this
  exact ⟨_, rfl, this, HB2.out⟩
theorem OwnB.form {base : Nat} {bs : List Int} {w w' : World} {v : Value} (h : OwnB base bs w v w') : ∃ A c, v = .slice A bs.length c := own_form h.1
theorem OwnB.sl {base : Nat} {bs : List Int} {w w' : World} {A : Option Addr} {n c : Nat} (h : OwnB base bs w (.slice A n c) w') : Sl w' w'.heap.size 1 A bs.length (bs.map (.int .u8)) := by
  obtain ⟨A', c', e⟩ := h.form
  injection e with e1 e2 e3
  subst e1 e2 e3
  exact Sl.of_own h.1
theorem putNum_any (w : World) (A : Option Addr) (n c : Nat) (bs : List Int) (hs : Sl w w.heap.size 1 A n (bs.map (.int .u8))) (k : Nat) (hk : Hid (k < 18446744073709551616)) (hn : n ≤ 1073741824) :
    Calls Tryd.prog 28 #[.slice A n c, .int .u64 k] w (RetB w.heap.size (bs ++ numB k) w) := by
  have hlen := hs.length
  have HS := Lib.hid hs; have HL := Lib.hid hlen
  clear hs hlen
  go_enter Tryd.func28, Tryd.ntmps28
  go_wp2_with fail
  refine (fresh_any _ A n c bs HS.out 10 (by omega) (by omega)).mono ?_
  rintro e w1 ⟨v, rfl, hown, hb1⟩
  have HB1 := Lib.hid hb1; have HO1 := Lib.hid hown
  clear hb1 hown
  go_wp2_with fail
  refine (number_any _ w.heap.size v bs HO1.out HB1.out.size k hk (by rw [HL.out]; omega)).mono ?_
  rintro e w2 ⟨v2, rfl, hown2, hb2⟩
  have HB2 := Lib.hid (HB1.out.trans hb2); have HO2 := Lib.hid hown2
  clear hb2 hown2
  go_wp2_with fail
  go_ret
  exact ⟨_, rfl, HO2.out, HB2.out⟩
theorem putBytes_any (w : World) (A A' : Option Addr) (n c n' c' : Nat) (bs xs : List Int) (hs : Sl w w.heap.size 1 A n (bs.map (.int .u8))) (hs' : Sl w w.heap.size 1 A' n' (xs.map (.int .u8))) (hn : n ≤ 1073741824) (hn' : n' ≤ 1073741824) :
    Calls Tryd.prog 27 #[.slice A n c, .slice A' n' c'] w (RetB w.heap.size (bs ++ (numB n' ++ xs)) w) := by
  obtain ⟨i0, hi, hi0, hi1, hi2⟩ := info_parts Tryd.infoU8
  have hlen := hs.length
  have hlen' := hs'.length
  have HS := Lib.hid hs; have HL := Lib.hid hlen; have HS' := Lib.hid hs'; have HL' := Lib.hid hlen'
  have hnl := (numF_len 9 n').2
  clear hs hlen hs' hlen'
  go_enter Tryd.func27, Tryd.ntmps27
  go_wp2_with fail
  refine (fresh_any _ A n c bs HS.out (10 + n') (by omega) (by omega)).mono ?_
  rintro e w1 ⟨v, rfl, hown, hb1⟩
  have HB1 := Lib.hid hb1; have HO1 := Lib.hid hown
  clear hb1 hown
  go_wp2_with fail
  refine (number_any _ w.heap.size v bs HO1.out HB1.out.size n' (by show _ < _; omega) (by rw [HL.out]; omega)).mono ?_
  rintro e w2 ⟨v2, rfl, hown2, hb2⟩
  have HB2 := Lib.hid (HB1.out.trans hb2); have HO2 := Lib.hid hown2
  have HS2 := Lib.hid (HS'.out.below HB2.out)
  obtain ⟨L, hL⟩ : ∃ L, (bs ++ numB n').length = L := ⟨_, rfl⟩
  have hLn : L ≤ n + 10 := by rw [← hL, List.length_append, HL.out]; exact Nat.add_le_add_left hnl _
  rw [hL] at HO2
  have HLL := Lib.hid hL
  clear hb2 hown2 hL hnl
  go_wp2_with (at_builtin; refine wpList_app _ rfl (.tmp 15) (.tmp 16) 29 rfl w.heap.size 5 i0 (.int .u8 0) 1 1 Tryd.underlying29 hi hi0 hi1 hi2 rfl (by decide) _ L _ rfl HO2.out _ _ n' c' (xs.map (.int .u8)) rfl HS2.out (ints_one _ _) (by unfold maxLen; omega) (by omega) HB2.out.size ?_; intro v3 w3 hown3 hg3 hat3; have hb3 := grown_below HB2.out HO2.out hg3 (Nat.le_refl _) HB2.out.size; have HO3 := Lib.hid hown3; have HB3 := Lib.hid hb3; clear hown3 hg3 hb3 hat3)
  go_ret
  have := HO3.out
  rw [← List.map_append, ← HLL.out, ← HL'.out, ← List.length_append, List.append_assoc] at this
  refine ⟨_, rfl, ?_, HB3.out⟩
  rw [← HL'.out]
  exact this
end Go.Proofs.YtakfdlokgddaoaaDoor

/-! Numbers with a sign, and texts, put behind others. -/
namespace Go.Proofs.YtakfdlokgddaoaaDoor
open Go.RowKit

theorem strCells_bytes (s : ByteArray) : Lib.strCells s = (bytesOf s).map (.int .u8) := by simp [Lib.strCells, bytesOf]

/-- The number that tells one with a sign. -/
def foldI (n : Int) : Nat := if n < 0 then (2 * (-(n + 1)) + 1).toNat else (2 * n).toNat
theorem not_neg (m : Nat) (hm : m < 9223372036854775808) : bits .xor .i64 (-1) (-((m : Int) + 1)) = m := by
  show IntKind.i64.wrap ((BitVec.ofInt 64 (-1) ^^^ BitVec.ofInt 64 (-((m : Int) + 1))).toNat : Int) = _
  have h1 : BitVec.ofInt 64 (-1) = BitVec.allOnes 64 := by decide
  have h2 : (-((m : Int) + 1)) = Int.negSucc m := by omega
  rw [h1, BitVec.allOnes_xor, h2, BitVec.ofInt_negSucc_eq_not_ofNat, BitVec.not_not, BitVec.toNat_ofNat, Nat.mod_eq_of_lt (by omega), IntKind.wrap_i64]
  omega
theorem or_one {x : Int} (h0 : 0 ≤ x) (h1 : x < 18446744073709551616) (h2 : x % 2 = 0) : bits .or .u64 x 1 = x + 1 := by
  have h := bits_join .u64 64 (by decide) wraps_u64 1 x 1 h0 (by omega) (by omega) (by omega) (by omega) (by omega)
  exact h
theorem fold_neg {k : Int} (h0 : -9223372036854775808 ≤ k) (h : k < 0) :
    bits .or .u64 (IntKind.u64.wrap (IntKind.u64.wrap (bits .xor .i64 (-1) k) * 2)) 1 = (foldI k : Int) := by
  obtain ⟨m, rfl⟩ : ∃ m : Nat, k = -((m : Int) + 1) := ⟨(-k - 1).toNat, by omega⟩
  rw [not_neg m (by omega), IntKind.wrap_u64, IntKind.wrap_u64, or_one (by omega) (by omega) (by omega), foldI, if_pos h]
  omega
theorem fold_pos {k : Int} (h0 : k < 9223372036854775808) (h : ¬ k < 0) : IntKind.u64.wrap (IntKind.u64.wrap k * 2) = (foldI k : Int) := by
  rw [IntKind.wrap_u64, IntKind.wrap_u64, foldI, if_neg h]
  omega
theorem fold_lt {k : Int} (h0 : -9223372036854775808 ≤ k) (h1 : k < 9223372036854775808) : foldI k < 18446744073709551616 := by
  unfold foldI; split <;> omega
end Go.Proofs.YtakfdlokgddaoaaDoor

/-! What bytes begin with: the walk of octet.look. -/
namespace Go.Proofs.YtakfdlokgddaoaaDoor
open Go.RowKit

/-- The number of the first k bytes. -/
def preB : Nat → List Int → Int
  | 0, _ => 0
  | _ + 1, [] => 0
  | k + 1, b :: bs => b % 128 + 128 * preB k bs
theorem pre_sum : ∀ (k : Nat) (bs : List Int), k < bs.length → preB (k + 1) bs = sumB k bs
  | _, [], h => by simp at h
  | 0, b :: bs, _ => by simp [preB, sumB]
  | k + 1, b :: bs, h => by
    have ih := pre_sum k bs (by simpa using h)
    show b % 128 + 128 * preB (k + 1) bs = b % 128 + 128 * sumB k bs
    rw [ih]
theorem pre_snoc : ∀ (k : Nat) (bs : List Int) (b : Int), bs[k]? = some b → preB (k + 1) bs = preB k bs + b % 128 * 128 ^ k
  | _, [], _, h => by simp at h
  | 0, x :: bs, b, h => by
    obtain rfl : x = b := by simpa using h
    simp [preB]
  | k + 1, x :: bs, b, h => by
    have ih := pre_snoc k bs b (by simpa using h)
    show x % 128 + 128 * preB (k + 1) bs = x % 128 + 128 * preB k bs + b % 128 * 128 ^ (k + 1)
    have e : b % 128 * 128 ^ (k + 1) = 128 * (b % 128 * 128 ^ k) := by rw [Int.pow_succ, ← Int.mul_assoc, Int.mul_comm]
    rw [ih, e]; omega
theorem pre_bound : ∀ (k : Nat) (bs : List Int), 0 ≤ preB k bs ∧ preB k bs < 128 ^ k
  | 0, _ => by simp [preB]
  | k + 1, [] => by simp only [preB]; exact ⟨by omega, Int.pow_pos (by omega)⟩
  | k + 1, b :: bs => by
    obtain ⟨h1, h2⟩ := pre_bound k bs
    simp only [preB, Int.pow_succ]
    omega
theorem run_ge : ∀ (k F : Nat) (bs : List Int), k ≤ F → k ≤ bs.length → (∀ j, j < k → 128 ≤ bs.getD j 0) → runB F bs = k + runB (F - k) (bs.drop k)
  | 0, F, bs, _, _, _ => by simp
  | k + 1, 0, bs, h, _, _ => by omega
  | k + 1, F + 1, [], _, h, _ => by simp at h
  | k + 1, F + 1, b :: bs, h, hl, hb => by
    have ih := run_ge k F bs (by omega) (by simpa using hl) (fun j hj => hb (j + 1) (by omega))
    have h0 : 128 ≤ b := hb 0 (by omega)
    show (if b < 128 then 0 else 1 + runB F bs) = k + 1 + runB (F + 1 - (k + 1)) (bs.drop k)
    rw [if_neg (by omega), ih, show F + 1 - (k + 1) = F - k by omega]; omega
theorem run_stop {k : Nat} {bs : List Int} {b : Int} (hk : k < 10) (h : bs[k]? = some b) (hb : b < 128) (hr : ∀ j, j < k → 128 ≤ bs.getD j 0) : runB 10 bs = k := by
  rw [run_ge k 10 bs (by omega) (by have := (List.getElem?_eq_some_iff.1 h).1; omega) hr, drop_cons h, show 10 - k = (9 - k) + 1 by omega]
  show k + (if b < 128 then 0 else _) = k
  rw [if_pos hb]; rfl
theorem run_end {k : Nat} {bs : List Int} (hk : k = min bs.length 10) (hr : ∀ j, j < k → 128 ≤ bs.getD j 0) : runB 10 bs = k := by
  rw [run_ge k 10 bs (by omega) (by omega) hr]
  by_cases h : k = 10
  · subst h; simp [runB]
  · rw [List.drop_eq_nil_of_le (by omega)]
    obtain ⟨j, hj⟩ : ∃ j, 10 - k = j + 1 := ⟨9 - k, by omega⟩
    rw [hj]; rfl
theorem pow128 : ∀ (k : Nat), (128 : Int) ^ k = 2 ^ (7 * k)
  | 0 => rfl
  | k + 1 => by rw [Int.pow_succ, pow128 k, Nat.mul_add, Int.pow_add]; rfl
theorem pow128_le {k m : Nat} (h : k ≤ m) : (128 : Int) ^ k ≤ 128 ^ m := by
  have : (128 : Nat) ^ k ≤ 128 ^ m := Nat.pow_le_pow_right (by decide) h
  exact_mod_cast this
theorem and127 {x : Int} (h0 : 0 ≤ x) (h1 : x < 256) : bits .and .u8 x 127 = x % 128 := by
  have H : ∀ k : Fin 256, bits .and .u8 (k.val : Int) 127 = (k.val : Int) % 128 := by decide +kernel
  have := H ⟨x.toNat, by omega⟩
  rwa [show ((⟨x.toNat, by omega⟩ : Fin 256).val : Int) = x by simp; omega] at this
/-- The program's step: seven bits are laid in by 'or'. -/
theorem look_step {bs : List Int} {k : Nat} {b : Int} (hb : bs[k]? = some b) (hk : k ≤ 9) (h9 : k = 9 → b ≤ 1) (h0 : 0 ≤ b) :
    bits .or .u64 (preB k bs) (IntKind.u64.wrap (b % 128 * 2 ^ (7 * k))) = preB (k + 1) bs := by
  obtain ⟨n0, n1⟩ := pre_bound k bs
  rw [pre_snoc k bs b hb, ← pow128]
  have hp : (0 : Int) < 128 ^ k := Int.pow_pos (by omega)
  have hx0 : 0 ≤ b % 128 * 128 ^ k := Int.mul_nonneg (by omega) (by omega)
  have e64 : (2 : Int) ^ 64 = 18446744073709551616 := by decide
  have hx1 : b % 128 * 128 ^ k < 2 ^ 64 := by
    rw [e64]
    by_cases h : k = 9
    · subst h
      have := h9 rfl
      have e9 : (128 : Int) ^ 9 = 9223372036854775808 := by decide
      rw [e9]; omega
    · have h1 : b % 128 * 128 ^ k ≤ 127 * 128 ^ k := Int.mul_le_mul_of_nonneg_right (by omega) (by omega)
      have h2 : (128 : Int) ^ k ≤ 128 ^ 8 := pow128_le (by omega)
      have e8 : (128 : Int) ^ 8 = 72057594037927936 := by decide
      omega
  have hn : preB k bs < 2 ^ 64 := by
    have h2 : (128 : Int) ^ k ≤ 128 ^ 9 := pow128_le (by omega)
    have e9 : (128 : Int) ^ 9 = 9223372036854775808 := by decide
    omega
  rw [wraps_u64 _ hx0 hx1]
  exact bits_join_low .u64 64 (by decide) wraps_u64 (7 * k) _ _ n0 (by rw [← pow128]; exact n1) hn hx0 (by rw [← pow128]; exact Int.mul_emod_left _ _) hx1

theorem look_step' {bs : List Int} {k : Nat} {b : Int} (hb : bs[k]? = some b) (hk : k ≤ 9) (h9 : k = 9 → b ≤ 1) (h0 : 0 ≤ b) (h1 : b < 256) :
    bits .or .u64 (preB k bs) (IntKind.u64.wrap (IntKind.u64.wrap (bits .and .u8 b 127) * 2 ^ (7 * k))) = preB (k + 1) bs := by
  rw [and127 h0 h1, wraps_u64 (b % 128) (by omega) (by have e64 : (2 : Int) ^ 64 = 18446744073709551616 := by decide
                                                       omega)]
  exact look_step hb hk h9 h0
theorem ret3 {a a' b b' c c' : Int} (h1 : a = a') (h2 : b = b') (h3 : c = c') : Ending.returned (.tuple #[.int .u64 a, .int .i64 b, .int .i64 c]) = .returned (.tuple #[.int .u64 a', .int .i64 b', .int .i64 c']) := by rw [h1, h2, h3]
/-- What 'look' answers, as the program hands it. -/
def RetL (bs : List Int) (w : World) (e : Ending) (w' : World) : Prop :=
  e = .returned (.tuple #[.int .u64 (lookB bs).1, .int .i64 ((lookB bs).2.1 : Int), .int .i64 (lookB bs).2.2]) ∧ w = w'
theorem look_short {bs : List Int} {k : Nat} (hr : runB 10 bs = k) (h : k = bs.length) (h1 : k < 10) : lookB bs = (0, 0, 4) := by
  unfold lookB; rw [hr]; simp only; rw [if_pos ⟨h, h1⟩]
theorem look_form {bs : List Int} {k : Nat} (hr : runB 10 bs = k) (h : ¬ (k = bs.length ∧ k < 10)) (h1 : k = 10 ∨ (0 < k ∧ bs.getD k 0 = 0) ∨ (k = 9 ∧ 1 < bs.getD 9 0)) : lookB bs = (0, 0, 3) := by
  unfold lookB; rw [hr]; simp only; rw [if_neg h, if_pos h1]
theorem look_is {bs : List Int} {k : Nat} (hr : runB 10 bs = k) (h : ¬ (k = bs.length ∧ k < 10)) (h1 : ¬ (k = 10 ∨ (0 < k ∧ bs.getD k 0 = 0) ∨ (k = 9 ∧ 1 < bs.getD 9 0))) : lookB bs = (sumB k bs, k + 1, 0) := by
  unfold lookB; rw [hr]; simp only; rw [if_neg h, if_neg h1]

set_option maxRecDepth 20000 in
theorem look_any (w : World) (B : Nat) (A : Option Addr) (n c : Nat) (bs : List Int) (ho : ByOk bs) (hs : Sl w B 1 A n (bs.map (.int .u8))) :
    Calls Tryd.prog 61 #[.slice A n c] w (RetL bs w) := by
  have hlen := hs.length
  have hn := hs.le
  have HS := Lib.hid hs; have HL := Lib.hid hlen; have HO := Lib.hid ho
  obtain ⟨m, hm⟩ : ∃ m, min n 10 = m := ⟨_, rfl⟩
  have hm1 : m ≤ 10 := by omega
  have hm2 : m ≤ n := by omega
  have HM := Lib.hid hm
  clear hs hlen ho
  rcases Nat.lt_or_ge 10 n with h10 | h10
  all_goals
    have hm3 : m < n → 10 ≤ m := by omega
    have hm4 : m < 10 → n ≤ m := by omega
    clear hm
    go_enter Tryd.func61, Tryd.ntmps61
    go_wp2_with fail
    go_step3
    go_wp2_with fail
    go_step3
    go_wp2_with fail
    go_loop [5, 6, 11] (fun ns ls is => ∃ (k : Nat) (v : Int), k ≤ m ∧ ns = .int .u64 v ∧ ls = .int .i64 (-1) ∧ is = .int .i64 k ∧ Hid (k ≤ 9 → v = preB k bs) ∧ Hid (∀ j, j < k → 128 ≤ bs.getD j 0)) (fun _ _ is => m - (intOf is).toNat)
    case atStart => exact ⟨0, 0, by omega, rfl, rfl, rfl, (by intro _; rfl), fun j hj => by omega⟩
    case round =>
      obtain ⟨k, v, hk, rfl, rfl, rfl, HV, HR⟩ := hrel
      by_cases hlt : k < m
      · obtain ⟨b, o, rfl, hbb, hcc⟩ := HS.out.spot (by omega) (by omega)
        obtain ⟨x, hx⟩ : ∃ x, bs[k]? = some x := ⟨bs[k]'(by rw [HL.out]; omega), List.getElem?_eq_getElem _⟩
        have hc : w.cell? ⟨b, o + k, none⟩ = some (.int .u8 x) := hcc k _ (by rw [List.getElem?_map, hx]; rfl)
        obtain ⟨x0, x1⟩ := HO.out x (List.mem_of_getElem? hx)
        have hg : bs.getD k 0 = x := by rw [List.getD_eq_getElem?_getD, hx]; rfl
        have HX := Lib.hid hx; have HG := Lib.hid hg
        have hk1 : (k : Int) < m := by omega
        have hk2 : (k : Int) < n := by omega
        have hk0 : (0 : Int) ≤ k := by omega
        clear hx hcc hg
        by_cases hbx : x < 128
        · have hrun := run_stop (by omega) HX.out hbx HR.out
          have HRUN := Lib.hid hrun
          have hkl : ¬ (k = bs.length ∧ k < 10) := by rw [HL.out]; omega
          have HKL := Lib.hid hkl
          have hst := fun (h9 : k = 9 → x ≤ 1) => look_step' HX.out (by omega) h9 x0 x1
          have hsum := (pre_sum k bs (by rw [HL.out]; omega)).symm
          rw [HV.out (by omega)] at *
          have HST := Lib.hid hst; have HSU := Lib.hid hsum
          obtain ⟨V, hV⟩ : ∃ V, preB k bs = V := ⟨_, rfl⟩
          rw [hV] at HST ⊢
          clear hrun hkl hst hsum hV
          by_cases hk9 : k = 9
          · subst hk9
            have hu : 1 ≤ x → ¬ 1 < x → True := fun _ _ => trivial
            by_cases hx1 : 1 < x
            · have hx3 : (x == 0) = false := by simp; omega
              have hx2 : decide (1 < x) = true := by simp; omega
              have hlk := look_form HRUN.out HKL.out (.inr (.inr ⟨rfl, by rw [HG.out]; exact hx1⟩))
              have HLK := Lib.hid hlk
              clear hlk
              go_wp2_with fail
              go_ret3
              go_light
              exact ⟨by rw [HLK.out]; rfl, rfl⟩
            · have hx2 : decide (1 < x) = false := by simp; omega
              by_cases hx0 : x = 0
              · have hx3 : (x == 0) = true := by simp; omega
                have hlk := look_form HRUN.out HKL.out (.inr (.inl ⟨by omega, by rw [HG.out]; exact hx0⟩))
                have HLK := Lib.hid hlk
                clear hlk hx0
                go_wp2_with fail
                go_ret3
                go_light
                exact ⟨by rw [HLK.out]; rfl, rfl⟩
              · have hx3 : (x == 0) = false := by simp; omega
                have hlk := look_is HRUN.out HKL.out (by rintro (h | ⟨_, h⟩ | ⟨_, h⟩); · omega
                                                         · rw [HG.out] at h; exact hx0 h
                                                         · rw [HG.out] at h; exact hx1 h)
                have HLK := Lib.hid hlk
                clear hlk
                go_wp2_with fail
                go_ret3
                go_light
                have hst := HST.out (fun _ => by omega)
                rw [show (2 : Int) ^ (7 * 9) = 9223372036854775808 by decide] at hst
                refine ⟨?_, rfl⟩
                rw [HLK.out]
                exact ret3 (hst.trans HSU.out.symm) rfl rfl
          · have hk9' : ((k : Int) == 9) = false := by simp; omega
            have hk99 : ¬ (k : Int) = 9 := by omega
            by_cases hx0 : 0 < k ∧ x = 0
            · obtain ⟨hk00, hx0⟩ := hx0
              have hx3 : (x == 0) = true := by simp; omega
              have hk01 : decide ((0 : Int) < (k : Int)) = true := by simp; omega
              have hlk := look_form HRUN.out HKL.out (.inr (.inl ⟨hk00, by rw [HG.out]; exact hx0⟩))
              have HLK := Lib.hid hlk
              clear hlk hx0
              go_wp2_with fail
              go_ret3
              go_light
              exact ⟨by rw [HLK.out]; rfl, rfl⟩
            · have hlk := look_is HRUN.out HKL.out (by rintro (h | ⟨h1, h⟩ | ⟨h1, _⟩); · omega
                                                       · rw [HG.out] at h; exact hx0 ⟨h1, h⟩
                                                       · omega)
              have HLK := Lib.hid hlk
              have hst := HST.out (fun h => by omega)
              have HST2 := Lib.hid hst
              clear hlk hst
              by_cases hk00 : 0 < k
              · have hx3 : (x == 0) = false := by simp; omega
                have hk01 : decide ((0 : Int) < (k : Int)) = true := by simp; omega
                clear hx0
                go_wp2_with fail
                go_ret3
                go_light
                refine ⟨?_, rfl⟩
                rw [HLK.out]
                exact ret3 (HST2.out.trans HSU.out.symm) rfl rfl
              · have hk01 : decide ((0 : Int) < (k : Int)) = false := by simp; omega
                have hk02 : (k : Int) ≤ 0 := by omega
                clear hx0
                go_wp2_with fail
                go_ret3
                go_light
                refine ⟨?_, rfl⟩
                rw [HLK.out]
                exact ret3 (HST2.out.trans HSU.out.symm) rfl rfl
        · have hbx' : 128 ≤ x := by omega
          have hbx2 : decide (x < 128) = false := by simp; omega
          go_wp2_with fail
          go_round
          case rel =>
            refine ⟨k + 1, _, by omega, rfl, rfl, by go_num, fun h9 => ?_, fun j hj => ?_⟩
            · rw [HV.out (by omega)]
              exact look_step' HX.out (by omega) (fun h => by omega) x0 x1
            · by_cases hjk : j = k
              · subst hjk; rw [HG.out]; exact hbx'
              · exact HR.out j (by omega)
          case measure => simp [intOf]; omega
      · obtain rfl : k = m := by omega
        have hrun := run_end (bs := bs) (k := k) (by rw [HL.out]; exact HM.out.symm) HR.out
        have HRUN := Lib.hid hrun
        by_cases hk10 : k = 10
        · have hlk := look_form HRUN.out (by omega) (.inl hk10)
          have HLK := Lib.hid hlk
          have hn10 : (10 : Int) ≤ n := by omega
          clear hlk hrun
          go_wp2_with fail
          go_ret3
          go_light
          exact ⟨by rw [HLK.out]; rfl, rfl⟩
        · have hlk := look_short HRUN.out (by rw [HL.out]; omega) (by omega)
          have HLK := Lib.hid hlk
          have hn10 : (n : Int) < 10 := by omega
          have hkn : n ≤ k := by omega
          clear hlk hrun
          first
            | (exfalso; omega)
            | (go_wp2_with fail
               go_ret3
               go_light
               exact ⟨by rw [HLK.out]; rfl, rfl⟩)
end Go.Proofs.YtakfdlokgddaoaaDoor
