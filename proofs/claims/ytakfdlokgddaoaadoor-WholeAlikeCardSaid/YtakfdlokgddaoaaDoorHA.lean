/- The digests' numbers: turning, stirring. Stirring a state: the program's and the document's. Digests and their numbers: plain laws. No program in sight. Digests and their numbers: the program's and the document's. Digests: what a state gives, where it begins, what it takes in. Digests: two together. -/
import Derived.Test.YtakfdlokgddaoaaDoorRows
import Derived.Test.YtakfdlokgddaoaaDoorLib
import Derived.Test.YtakfdlokgddaoaaDoorLib2
import Derived.BigGuardPart
import Derived.Deep.Light
import Derived.Deep.QuietTactic
import Derived.BigQuiet
import Derived.BigRegion
import Derived.Deep.RegionLaw
import Derived.StillTailTactics
import Derived.Laws.Bits64
import Derived.Laws.Bits64b
import Derived.Deep.DeepCutAuto
import Derived.Test.YtakfdlokgddaoaaDoorOA
import Derived.Lib.EndianBits
import Derived.Deep.WholeRow
import Derived.Deep.MidRow
import Derived.Laws.CopyOwn
import Derived.Deep.RegionHeld3
/-! The digests' numbers: turning, stirring. -/
namespace Go.Proofs.YtakfdlokgddaoaaDoor
open Go.RowKit

/-- A word turned left by so many bits. -/
def rotI (x : Int) (k : Nat) : Int := bits .or .u64 (IntKind.u64.wrap (x * 2 ^ k)) (x / 2 ^ (64 - k))
def xorI (a b : Int) : Int := bits .xor .u64 a b
def addI (a b : Int) : Int := IntKind.u64.wrap (a + b)
theorem wrapU_nonneg (n : Int) : 0 ≤ IntKind.u64.wrap n ∧ IntKind.u64.wrap n < 18446744073709551616 := by rw [IntKind.wrap_u64]; omega

theorem rot32 (x : Int) (w : World) : Calls Tryd.prog 85 #[.int .u64 x, .int .i64 32] w fun e w' => e = .returned (.int .u64 (rotI x 32)) ∧ w = w' := by
  have h1 : bits .and .u64 32 63 = 32 := by decide +kernel
  go_enter Tryd.func85, Tryd.ntmps85
  go_wp2_with fail
  go_ret
  exact ⟨rfl, rfl⟩
theorem rot24 (x : Int) (w : World) : Calls Tryd.prog 85 #[.int .u64 x, .int .i64 24] w fun e w' => e = .returned (.int .u64 (rotI x 24)) ∧ w = w' := by
  have h1 : bits .and .u64 24 63 = 24 := by decide +kernel
  go_enter Tryd.func85, Tryd.ntmps85
  go_wp2_with fail
  go_ret
  exact ⟨rfl, rfl⟩
theorem rot16 (x : Int) (w : World) : Calls Tryd.prog 85 #[.int .u64 x, .int .i64 16] w fun e w' => e = .returned (.int .u64 (rotI x 16)) ∧ w = w' := by
  have h1 : bits .and .u64 16 63 = 16 := by decide +kernel
  go_enter Tryd.func85, Tryd.ntmps85
  go_wp2_with fail
  go_ret
  exact ⟨rfl, rfl⟩
theorem rot63 (x : Int) (w : World) : Calls Tryd.prog 85 #[.int .u64 x, .int .i64 63] w fun e w' => e = .returned (.int .u64 (rotI x 63)) ∧ w = w' := by
  have h1 : bits .and .u64 63 63 = 63 := by decide +kernel
  go_enter Tryd.func85, Tryd.ntmps85
  go_wp2_with fail
  go_ret
  exact ⟨rfl, rfl⟩
/-- All at once: the turns that occur. -/
theorem rot_any (x k : Int) (w : World) (hk : k = 32 ∨ k = 24 ∨ k = 16 ∨ k = 63) : Calls Tryd.prog 85 #[.int .u64 x, .int .i64 k] w fun e w' => e = .returned (.int .u64 (rotI x k.toNat)) ∧ w = w' := by
  rcases hk with rfl | rfl | rfl | rfl
  · exact rot32 x w
  · exact rot24 x w
  · exact rot16 x w
  · exact rot63 x w
end Go.Proofs.YtakfdlokgddaoaaDoor

/-! Stirring a state: the program's and the document's. -/
namespace Go.Proofs.YtakfdlokgddaoaaDoor
open Go.RowKit

structure St where
  a : Int
  b : Int
  c : Int
  d : Int
def roundI (k : Int) (s : St) : St :=
  let a0 := xorI (addI s.a s.b) k
  let d1 := rotI (xorI s.d a0) 32
  let c1 := addI s.c d1
  let b1 := rotI (xorI s.b c1) 24
  let a1 := addI a0 b1
  let d2 := rotI (xorI d1 a1) 16
  let c2 := addI c1 d2
  let b2 := rotI (xorI b1 c2) 63
  ⟨a1, b2, c2, d2⟩
def roundsI : Nat → St → St
  | 0, s => s
  | k + 1, s => roundI ((k : Int) + 1) (roundsI k s)
def stirI (s : St) : St := roundsI 6 s
def takeI (s : St) (n : Int) : St := stirI ⟨xorI s.a n, s.b, s.c, s.d⟩
def stC (s : St) : List Value := [.int .u64 s.a, .int .u64 s.b, .int .u64 s.c, .int .u64 s.d]
def StAt (w : World) (g : Nat) (t : TypeId) (s : St) : Prop := Bk w g t (stC s)
theorem StAt.cells {w : World} {g : Nat} {t : TypeId} {s : St} (h : StAt w g t s) :
    w.cell? ⟨g, 0, none⟩ = some (.int .u64 s.a) ∧ w.cell? ⟨g, 1, none⟩ = some (.int .u64 s.b) ∧ w.cell? ⟨g, 2, none⟩ = some (.int .u64 s.c) ∧ w.cell? ⟨g, 3, none⟩ = some (.int .u64 s.d) ∧ ∀ i, w.frozen? ⟨g, i, none⟩ = false :=
  ⟨h.cell 0, h.cell 1, h.cell 2, h.cell 3, h.frozen⟩

theorem only_refl (w : World) (g : Nat) : w.grownBy w (some g) := World.grownBy.refl _ _
set_option maxRecDepth 20000 in
theorem stir_any (w : World) (g : Nat) (s : St) (h : StAt w g 130 s) :
    Calls Tryd.prog 79 #[.pointer (some ⟨g, 0, none⟩)] w fun e w' => e = .returned (.tuple #[]) ∧ StAt w' g 130 (stirI s) ∧ w.grownBy w' (some g) := by
  obtain ⟨c0, c1, c2, c3, cf⟩ := h.cells
  have hlt : g < w.heap.size := Bk.lt h
  have H := Lib.hid h
  clear h
  go_enter Tryd.func79, Tryd.ntmps79
  go_wp2_with fail
  go_quiet (fail)
  go_wp2_with fail
  go_loop [2, 3, 4, 5, 23] (fun a b c d i => ∃ k : Nat, k ≤ 6 ∧ i = .int .u64 k ∧ a = .int .u64 (roundsI k s).a ∧ b = .int .u64 (roundsI k s).b ∧ c = .int .u64 (roundsI k s).c ∧ d = .int .u64 (roundsI k s).d) (fun _ _ _ _ i => 6 - (intOf i).toNat)
  case atStart => exact ⟨0, by omega, rfl, rfl, rfl, rfl, rfl⟩
  case round =>
    obtain ⟨k, hk, rfl, rfl, rfl, rfl, rfl⟩ := hrel
    by_cases hlt : k < 6
    · obtain ⟨sk, hsk⟩ : ∃ sk, roundsI k s = sk := ⟨_, rfl⟩
      rw [hsk]
      have HSK := Lib.hid hsk; clear hsk
      have hk1 : (k : Int) < 6 := by omega
      go_wp2_with (go_at_call 85; refine (rot_any _ _ _ (by decide)).mono ?_; rintro e w' ⟨rfl, rfl⟩)
      go_round
      case rel =>
        refine ⟨k + 1, by omega, by go_num, ?_, ?_, ?_, ?_⟩ <;> (rw [show roundsI (k + 1) s = roundI ((k : Int) + 1) sk from by rw [roundsI, HSK.out]]; rfl)
      case measure => simp [intOf]; omega
    · have hk6 : roundsI k s = stirI s := by rw [show k = 6 by omega]; rfl
      have HK6 := Lib.hid hk6; clear hk6
      have hk1 : (6 : Int) ≤ k := by omega
      go_wp2_with fail
      rw [HK6.out]
      go_end0
      exact ⟨rfl, ((((Bk.drewN H.out nq).set_ 0 _).set_ 1 _).set_ 2 _).set_ 3 _, only_set (only_set (only_set (only_set (only_drewN (only_refl w g) nq) _ _) _ _) _ _) _ _⟩

theorem take_any (w : World) (g : Nat) (s : St) (h : StAt w g 130 s) (n : Int) :
    Calls Tryd.prog 72 #[.pointer (some ⟨g, 0, none⟩), .int .u64 n] w fun e w' => e = .returned (.tuple #[]) ∧ StAt w' g 130 (takeI s n) ∧ w.grownBy w' (some g) := by
  obtain ⟨c0, c1, c2, c3, cf⟩ := h.cells
  have hlt : g < w.heap.size := Bk.lt h
  have H := Lib.hid h
  clear h
  go_enter Tryd.func72, Tryd.ntmps72
  go_wp2_with fail
  go_region
  all_goals
    go_wp2_with fail
    refine (stir_any _ g ⟨xorI s.a n, s.b, s.c, s.d⟩ (((H.out : Bk w g _ _).set_ 0 (.int .u64 (xorI s.a n))).drew)).mono ?_
    rintro e w2 ⟨rfl, hs, hg⟩
    go_wp2_with fail
    go_end0
    exact ⟨rfl, hs, only_trans (only_drew (only_set (only_refl w g) _ _)) hg⟩

/-! ### the document's -/
section
variable {w wr : World} {s : St}
end
theorem round_eq (k : Int) (s : St) : roundI k s =
    let a0 := xorI (addI s.a s.b) k
    let d1 := rotI (xorI s.d a0) 32
    let c1 := addI s.c d1
    let b1 := rotI (xorI s.b c1) 24
    let a1 := addI a0 b1
    let d2 := rotI (xorI d1 a1) 16
    let c2 := addI c1 d2
    ⟨a1, rotI (xorI b1 c2) 63, c2, d2⟩ := rfl

end Go.Proofs.YtakfdlokgddaoaaDoor

/-! Digests and their numbers: plain laws. No program in sight. -/
namespace Go.Proofs.YtakfdlokgddaoaaDoor
open Go.RowKit

def numG : List Int → Int
  | [] => 0
  | b :: l => b + 256 * numG l
structure DgOk (ds : List Int) : Prop where
  len : ds.length = 8
  byt : ByOk ds
def dgA (ds : List Int) : Array Value := (ds.map (Value.int .u8)).toArray
def fromG (n : Int) : List Int := (List.range 8).map fun i => n / 256 ^ i % 256

theorem numG_bound : ∀ (l : List Int), ByOk l → 0 ≤ numG l ∧ numG l < 256 ^ l.length
  | [], _ => by simp [numG]
  | b :: l, h => by
    obtain ⟨h1, h2⟩ := numG_bound l h.tail
    obtain ⟨h3, h4⟩ := h b (by simp)
    simp only [numG, List.length_cons, Int.pow_succ]
    omega
theorem numG_snoc : ∀ (l : List Int) (b : Int), numG (l ++ [b]) = numG l + b * 256 ^ l.length
  | [], b => by simp [numG]
  | x :: l, b => by
    have e : b * (256 ^ l.length * 256) = 256 * (b * 256 ^ l.length) := by rw [← Int.mul_assoc, Int.mul_comm]
    simp only [List.cons_append, numG, numG_snoc l b, List.length_cons, Int.pow_succ, e, Int.mul_add]
    omega
theorem pow256 : ∀ (k : Nat), (256 : Int) ^ k = 2 ^ (8 * k)
  | 0 => rfl
  | k + 1 => by rw [Int.pow_succ, pow256 k, Nat.mul_add, Int.pow_add]; rfl
theorem pow256_le {k m : Nat} (h : k ≤ m) : (256 : Int) ^ k ≤ 256 ^ m := by
  obtain ⟨d, rfl⟩ := Nat.le.dest h
  rw [Int.pow_add]
  have h1 : (0 : Int) < 256 ^ k := Int.pow_pos (by omega)
  have h2 : (1 : Int) ≤ 256 ^ d := by have : (0 : Int) < 256 ^ d := Int.pow_pos (by omega); omega
  calc (256 : Int) ^ k = 256 ^ k * 1 := by rw [Int.mul_one]
    _ ≤ 256 ^ k * 256 ^ d := Int.mul_le_mul_of_nonneg_left h2 (by omega)
/-- The program's step: a byte is laid in by 'or'. -/
theorem num_step {ds : List Int} (h : DgOk ds) {k : Nat} {b : Int} (hb : ds[k]? = some b) :
    bits .or .u64 (numG (ds.take k)) (IntKind.u64.wrap (b * 2 ^ (8 * k))) = numG (ds.take (k + 1)) := by
  have hk : k < 8 := by rw [← h.len]; exact (List.getElem?_eq_some_iff.1 hb).1
  obtain ⟨b0, b1⟩ := h.byt b (List.mem_of_getElem? hb)
  have hl : (ds.take k).length = k := by rw [List.length_take, h.len]; omega
  obtain ⟨n0, n1⟩ := numG_bound _ (h.byt.take k)
  rw [hl] at n1
  rw [take_snoc hb, numG_snoc, hl]
  have hp : (0 : Int) < 256 ^ k := Int.pow_pos (by omega)
  have hx0 : 0 ≤ b * 256 ^ k := Int.mul_nonneg b0 (by omega)
  have hx1 : b * 256 ^ k < 256 ^ 8 := by
    have h1 : b * 256 ^ k ≤ 255 * 256 ^ k := Int.mul_le_mul_of_nonneg_right (by omega) (by omega)
    have h2 : (256 : Int) ^ k ≤ 256 ^ 7 := pow256_le (by omega)
    have h3 : (256 : Int) ^ 7 * 256 = 256 ^ 8 := by rw [← Int.pow_succ]
    have h4 : (0 : Int) < 256 ^ 7 := Int.pow_pos (by omega)
    omega
  have e8 : (256 : Int) ^ 8 = 2 ^ 64 := by decide
  rw [← pow256, wraps_u64 _ hx0 (by rw [← e8]; exact hx1)]
  exact bits_join_low .u64 64 (by decide) wraps_u64 (8 * k) _ _ n0 (by rw [← pow256]; exact n1) (by rw [← e8]; exact Int.lt_of_lt_of_le n1 (pow256_le (by omega))) hx0 (by rw [← pow256]; exact Int.mul_emod_left _ _) (by rw [← e8]; exact hx1)

theorem num_step' {ds : List Int} (h : DgOk ds) {k : Nat} {b : Int} (hb : ds[k]? = some b) :
    IntKind.u64.wrap (IntKind.u64.wrap (numG (ds.drop (k + 1)) * 256) + b) = numG (ds.drop k) := by
  have hk : k < 8 := by rw [← h.len]; exact (List.getElem?_eq_some_iff.1 hb).1
  obtain ⟨b0, b1⟩ := h.byt b (List.mem_of_getElem? hb)
  obtain ⟨n0, n1⟩ := numG_bound _ (h.byt.drop (k + 1))
  obtain ⟨m0, m1⟩ := numG_bound _ (h.byt.drop k)
  rw [List.length_drop, h.len] at m1
  have e1 : numG (ds.drop k) = b + 256 * numG (ds.drop (k + 1)) := by rw [drop_cons hb, numG]
  have h2 : (256 : Int) ^ (8 - k) ≤ 256 ^ 8 := pow256_le (by omega)
  have e8 : (256 : Int) ^ 8 = 18446744073709551616 := by decide
  rw [e8] at h2
  rw [e1] at m0 m1 ⊢
  rw [IntKind.wrap_u64, IntKind.wrap_u64]
  omega
theorem fromG_len (n : Int) : (fromG n).length = 8 := by simp [fromG]
theorem fromG_get (n : Int) {k : Nat} (hk : k < 8) : (fromG n)[k]? = some (n / 256 ^ k % 256) := by simp [fromG, hk]
theorem fromG_ok (n : Int) : DgOk (fromG n) := ⟨fromG_len n, fun b hb => by
  simp only [fromG, List.mem_map] at hb
  obtain ⟨i, _, rfl⟩ := hb
  omega⟩
theorem from_step (n : Int) (k : Nat) (hk : k < 8) : IntKind.u8.wrap (n / 2 ^ min (8 * k) 64) = n / 256 ^ k % 256 := by
  rw [show min (8 * k) 64 = 8 * k by omega, ← pow256, IntKind.wrap_u8]
theorem from_step' (n : Int) (k : Nat) : n / 256 ^ k / 256 = n / 256 ^ (k + 1) := by
  have : (0 : Int) < 256 ^ k := Int.pow_pos (by omega)
  rw [Int.pow_succ, Int.ediv_ediv_of_nonneg (by omega)]
theorem bits_range (op : BinOp) (a b : Int) (h : op = .xor ∨ op = .or ∨ op = .and) : 0 ≤ bits op .u64 a b ∧ bits op .u64 a b < 18446744073709551616 := by
  rcases h with rfl | rfl | rfl <;> exact wrapU_nonneg _
theorem xorI_range (a b : Int) : 0 ≤ xorI a b ∧ xorI a b < 18446744073709551616 := bits_range _ _ _ (.inl rfl)
end Go.Proofs.YtakfdlokgddaoaaDoor

/-! Digests and their numbers: the program's and the document's. -/
namespace Go.Proofs.YtakfdlokgddaoaaDoor
open Go.RowKit

theorem dgA_size (ds : List Int) : (dgA ds).size = ds.length := by simp [dgA]
theorem dgA_get (ds : List Int) (k : Nat) : (dgA ds)[k]? = ds[k]?.map (Value.int .u8) := by simp [dgA]
theorem dgA_list (ds : List Int) : (dgA ds).toList = ds.map (Value.int .u8) := by simp [dgA]
theorem dgA_one (ds : List Int) : (dgA ds).all (·.oneCell') = true := by
  unfold dgA
  exact all_oneCell_toArray fun v hv => ints_one _ _ v hv
theorem dg_size : (Tryd.prog.info? 23).map (·.size) = some 8 := by kernel_rfl
theorem rdg_size : (Tryd.prog.info? 22).map (·.size) = some 8 := by kernel_rfl
/-- A digest lies whole in block g. -/
def DgAt (w : World) (g : Nat) (t : TypeId) (ds : List Int) : Prop := Bk w g t (ds.map (Value.int .u8))
theorem DgAt.heap {w : World} {g : Nat} {t : TypeId} {ds : List Int} (h : DgAt w g t ds) : w.heap[g]? = some (.cells (dgA ds) t (0, 0)) := h
theorem dg_new (w : World) (t : TypeId) (ds : List Int) : DgAt (w.alloc (.cells (dgA ds) t)) w.heap.size t ds := Bk.new' w t _ (dgA_list ds)

theorem Bk.row {w : World} {g : Nat} {t : TypeId} {xs : List Value} (h : Bk w g t xs) (cs : Array Value) : Bk (w.setRow g cs) g t cs.toList := by
  unfold Bk at h ⊢; simpa using setRow_heap w g _ cs t (0, 0) h
theorem Bk.rowFar {w : World} {g g' : Nat} {t : TypeId} {xs : List Value} (h : Bk w g t xs) (hne : g ≠ g') (cs : Array Value) : Bk (w.setRow g' cs) g t xs := by
  unfold Bk at h ⊢; rw [setRow_other _ _ _ _ hne]; exact h
theorem DgAt.row {w : World} {g : Nat} {t : TypeId} {xs : List Value} (h : Bk w g t xs) (ds : List Int) : DgAt (w.setRow g (dgA ds)) g t ds := by
  have := Bk.row h (dgA ds); rw [dgA_list] at this; exact this
theorem only_row {a w : World} {g : Nat} (h : a.grownBy w (some g)) (cs : Array Value) : a.grownBy (w.setRow g cs) (some g) :=
  ⟨h.os, h.tape, h.output, by simpa using h.size, fun k hk hne => (setRow_other w g k cs (by rintro rfl; exact hne rfl)).trans (h.block k hk hne)⟩

/-- An array by value, at a place that is there. -/
theorem run_index_row {P : Program} (t e : TypeId) (n : Nat) (cs : Array Value) (k : IntKind) (i : Nat) (v : Value) (h : P.underlying t = some (.array n e)) (hs : (P.info? e).map (·.size) = some 1) (hi : i < n) (hv : cs[i]? = some v)
    (hag : ∀ w, (isAgg e).run P w = .ok false w) (w : World) :
    (Instr.index t (.agg cs) (.int k (i : Int))).run P w = .ok v w := by
  have h1 : ∀ w, (sizeOf e).run P w = .ok 1 w := fun w => by
    cases hq : P.info? e with
    | none => simp [hq] at hs
    | some j =>
      simp [hq] at hs
      simp [sizeOf, typeInfo, hq, hs]
  have h0 : (0 : Int) ≤ i := by omega
  have h2 : (i : Int) < n := by omega
  simp [Instr.index, run_underlying h, asIntOf, h0, part, h1, hag, hv]
  intro hc; omega

set_option maxRecDepth 20000 in
theorem num_any (ds : List Int) (h : DgOk ds) (w : World) :
    Calls Tryd.prog 73 #[.agg (dgA ds)] w fun e w' => e = .returned (.int .u64 (numG ds)) ∧ Below w.heap.size w w' := by
  have hb1 := below_new w (.cells (dgA ds) 23)
  have HC := Lib.hid (dg_new w 23 ds).heap
  have HI : Hid ((Tryd.prog.info? 23).map (·.size) = some (dgA ds).size) := by
    show _ = _
    rw [dgA_size, h.len]; exact dg_size
  have hidx : ∀ (k : Nat) (b : Int), ds[k]? = some b → ∀ w, (Instr.index 23 (.agg (dgA ds)) (.int .i64 (k : Int))).run Tryd.prog w = .ok (.int .u8 b) w := fun k b hb w =>
    run_index_row 23 5 8 _ .i64 k _ Tryd.underlying23 (by kernel_rfl) (by rw [← h.len]; exact (List.getElem?_eq_some_iff.1 hb).1) (by rw [dgA_get, hb]; rfl) (fun w => by simp [isAgg, run_underlying Tryd.underlying5]) w
  have HX := Lib.hid hidx; have HD := Lib.hid h
  clear hidx h
  generalize dgA ds = C at HC HI HX hb1 ⊢
  go_enter Tryd.func73, Tryd.ntmps73
  go_wp2_with (refine wpList_load_row rfl 23 _ rfl w.heap.size rfl 23 C (0, 0) _ HC.out Tryd.underlying23 rfl HI.out ?_)
  go_loop [3, 7] (fun n i => ∃ k : Nat, k ≤ 8 ∧ i = .int .i64 k ∧ n = .int .u64 (numG (ds.take k))) (fun _ i => 8 - (intOf i).toNat)
  case atStart => exact ⟨0, by omega, rfl, rfl⟩
  case round =>
    obtain ⟨k, hk, rfl, rfl⟩ := hrel
    by_cases hlt : k < 8
    · have hk1 : (k : Int) < 8 := by omega
      obtain ⟨b, hb⟩ : ∃ b, ds[k]? = some b := ⟨ds[k]'(by rw [HD.out.len]; exact hlt), List.getElem?_eq_getElem _⟩
      have hx := HX.out k b hb
      have hs := num_step HD.out hb
      have b01 := HD.out.byt b (List.mem_of_getElem? hb)
      obtain ⟨b0, b1⟩ := b01
      obtain ⟨nk, hnk⟩ : ∃ nk, numG (ds.take k) = nk := ⟨_, rfl⟩
      rw [hnk] at hs ⊢
      have HS := Lib.hid hs
      clear hb hs hnk
      go_wp2_with fail
      refine ⟨⟨k + 1, by omega, by go_num, by rw [HS.out]⟩, by simp [intOf]; omega⟩
    · have e8 : ds.take k = ds := List.take_of_length_le (by rw [HD.out.len]; omega)
      have E8 := Lib.hid e8; clear e8
      have hk1 : (8 : Int) ≤ k := by omega
      go_wp2_with fail
      go_ret
      go_light
      exact ⟨(show Ending.returned (.int .u64 (numG (ds.take k))) = .returned (.int .u64 (numG ds)) by rw [E8.out]), hb1⟩

theorem from_list (n : Int) (k : Nat) (hk : k < 8) : ((fromG n).take k ++ List.replicate (8 - k) 0).set k (n / 256 ^ k % 256) = (fromG n).take (k + 1) ++ List.replicate (8 - (k + 1)) 0 := by
  have e3 : 8 - k = (8 - (k + 1)) + 1 := by omega
  have hl : ((fromG n).take k).length = k := by rw [List.length_take, fromG_len]; omega
  rw [List.set_append, if_neg (by rw [hl]; omega), hl, Nat.sub_self, e3, List.replicate_succ, List.set_cons_zero, take_snoc (fromG_get n hk), List.append_assoc]
  rfl

set_option maxRecDepth 20000 in
theorem from_any (n : Int) (w : World) :
    Calls Tryd.prog 18 #[.int .u64 n] w fun e w' => e = .returned (.agg (dgA (fromG n))) ∧ Below w.heap.size w w' := by
  obtain ⟨w1, hw1⟩ : ∃ w1, (w.alloc (.cells #[.int .u8 0, .int .u8 0, .int .u8 0, .int .u8 0, .int .u8 0, .int .u8 0, .int .u8 0, .int .u8 0] 23)).alloc (.cells #[.int .u8 0, .int .u8 0, .int .u8 0, .int .u8 0, .int .u8 0, .int .u8 0, .int .u8 0, .int .u8 0] 23) = w1 := ⟨_, rfl⟩
  have hb1 : Below w.heap.size w w1 := hw1 ▸ (below_new w _).alloc (by simp) _
  have hz : DgAt w1 w.heap.size 23 (List.replicate 8 0) := hw1 ▸ (Bk.new w _ #[.int .u8 0, .int .u8 0, .int .u8 0, .int .u8 0, .int .u8 0, .int .u8 0, .int .u8 0, .int .u8 0]).alloc _
  have hc : DgAt w1 (w.heap.size + 1) 23 ((fromG n).take 0 ++ List.replicate (8 - 0) 0) := hw1 ▸ Bk.at_ _ _ #[.int .u8 0, .int .u8 0, .int .u8 0, .int .u8 0, .int .u8 0, .int .u8 0, .int .u8 0, .int .u8 0] (by simp) rfl
  have HC := Lib.hid hc; have HW := Lib.hid hw1; have HB := Lib.hid hb1; have HZ := Lib.hid hz
  clear hw1 hc hb1 hz
  go_enter Tryd.func18, Tryd.ntmps18
  go_wp2_with fail
  rw [HW.out]
  go_loopw [5] (fun i wr => ∃ k : Nat, k ≤ 8 ∧ i = .int .i64 k ∧ DgAt wr (w.heap.size + 1) 23 ((fromG n).take k ++ List.replicate (8 - k) 0) ∧ DgAt wr w.heap.size 23 (List.replicate 8 0) ∧ Below w.heap.size w wr) (fun i _ => 8 - (intOf i).toNat)
  case atStart => exact ⟨0, by omega, rfl, HC.out, HZ.out, HB.out⟩
  case round =>
    obtain ⟨k, hk, rfl, hd, hz, hbl⟩ := hrel
    have hlt0 : w.heap.size + 1 < wr.heap.size := Bk.lt hd
    by_cases hlt : k < 8
    · have hk1 : (k : Int) < 8 := by omega
      have h0 : (0 : Int) ≤ k := by omega
      have hcell : wr.cell? ⟨w.heap.size + 1, k, none⟩ = some (.int .u8 0) := by
        rw [Bk.cell hd, List.getElem?_map, List.getElem?_append_right (by rw [List.length_take]; omega)]
        simp [List.getElem?_replicate, fromG_len]; omega
      have hfr : wr.frozen? ⟨w.heap.size + 1, k, none⟩ = false := Bk.frozen hd k
      have HD := Lib.hid hd; have HB := Lib.hid hbl; have HZ := Lib.hid hz
      clear hd hbl hz
      go_wp2_with fail
      have e1 := Bk.set_ HD.out k (.int .u8 (n / 256 ^ k % 256))
      rw [← List.map_set, from_list n k hlt] at e1
      rw [← pow256]
      exact ⟨⟨k + 1, by omega, by go_num, e1, Bk.far HZ.out (by simp) _, HB.out.setCell (Nat.le_succ _) _⟩, by simp [intOf]; omega⟩
    · have e8 : (fromG n).take k ++ List.replicate (8 - k) 0 = fromG n := by rw [List.take_of_length_le (by rw [fromG_len]; omega), show 8 - k = 0 by omega]; simp
      rw [e8] at hd
      have hk1 : (8 : Int) ≤ k := by omega
      have HI : Hid ((Tryd.prog.info? 23).map (·.size) = some (dgA (fromG n)).size) := by
        show _ = _
        rw [dgA_size, fromG_len]; exact dg_size
      have HC2 := Lib.hid (DgAt.heap hd); have HZ2 := Lib.hid (DgAt.heap hz); have HB := Lib.hid hbl; have HO := Lib.hid (dgA_one (fromG n)); have HA := Lib.hid hz
      have HZS : Hid ((dgA (List.replicate 8 0)).size = (dgA (fromG n)).size) := by show _ = _; rw [dgA_size, dgA_size, fromG_len]; rfl
      clear e8 hd hbl hz
      obtain ⟨C, hC⟩ : ∃ C, dgA (fromG n) = C := ⟨_, rfl⟩
      have HCC := Lib.hid hC
      rw [hC] at HI HC2 HO HZS
      clear hC
      go_wp2_with (first
        | (refine wpList_load_row rfl 23 _ rfl (w.heap.size + 1) rfl 23 C (0, 0) _ HC2.out Tryd.underlying23 rfl HI.out ?_)
        | (refine wpList_store_row rfl 23 _ _ rfl w.heap.size C rfl rfl 23 (dgA (List.replicate 8 0)) HZ2.out HI.out HZS.out HO.out ?_))
      refine bodyPost_ret (results_cell_row (p := 2) (ty := 23) rfl _ _ w.heap.size 23 C (0, 0) _ rfl (setRow_heap _ _ _ _ _ _ HZ2.out) Tryd.underlying23 rfl HI.out) rfl ?_
      rw [← HCC.out]
      exact ⟨rfl, below_setRow HB.out (Nat.le_refl _) _⟩
end Go.Proofs.YtakfdlokgddaoaaDoor

/-! Digests: what a state gives, where it begins, what it takes in. -/
namespace Go.Proofs.YtakfdlokgddaoaaDoor
open Go.RowKit

def outI (s : St) : List Int := fromG (xorI s.a s.c)
theorem outI_ok (s : St) : DgOk (outI s) := fromG_ok _
def beginI (kind : Int) : St := ⟨2611923443488327891, 1376283091369227076, 11820040416388919760, kind⟩
theorem dg_info (ds : List Int) (h : DgOk ds) : Hid ((Tryd.prog.info? 23).map (·.size) = some (dgA ds).size) := by
  show _ = _
  rw [dgA_size, h.len]; exact dg_size
theorem rdg_info (ds : List Int) (h : DgOk ds) : Hid ((Tryd.prog.info? 22).map (·.size) = some (dgA ds).size) := by
  show _ = _
  rw [dgA_size, h.len]; exact rdg_size
theorem zero8 : (#[.int .u8 0, .int .u8 0, .int .u8 0, .int .u8 0, .int .u8 0, .int .u8 0, .int .u8 0, .int .u8 0] : Array Value) = dgA (List.replicate 8 0) := rfl

set_option maxRecDepth 20000 in
theorem gives_any (w : World) (g : Nat) (s : St) (h : StAt w g 130 s) :
    Calls Tryd.prog 74 #[.pointer (some ⟨g, 0, none⟩)] w fun e w' => e = .returned (.agg (dgA (outI s))) ∧ Below w.heap.size w w' := by
  obtain ⟨w1, hw1⟩ : ∃ w1, w.alloc (.cells (dgA (List.replicate 8 0)) 23) = w1 := ⟨_, rfl⟩
  have hz : DgAt w1 w.heap.size 23 (List.replicate 8 0) := hw1 ▸ dg_new w 23 (List.replicate 8 0)
  have hb : Below w.heap.size w w1 := hw1 ▸ below_new w (.cells (dgA (List.replicate 8 0)) 23)
  obtain ⟨c0, c1, c2, c3, cf⟩ := StAt.cells (w := w1) (Bk.later h hb)
  have hlt : g < w1.heap.size := Bk.lt (Bk.later h hb)
  have HZ := Lib.hid hz; have HB := Lib.hid hb; have HW := Lib.hid hw1
  have HI := dg_info _ (outI_ok s)
  have HO := Lib.hid (dgA_one (outI s))
  have HS : Hid ((dgA (List.replicate 8 0)).size = (dgA (outI s)).size) := by show _ = _; rw [dgA_size, dgA_size, (outI_ok s).len]; rfl
  clear h hz hb hw1
  go_enter Tryd.func74, Tryd.ntmps74
  go_wp2_with fail
  rw [zero8, HW.out]
  go_still_tail 9, (by kernel_rfl)
  go_wp2_with fail
  refine (from_any _ _).mono ?_
  rintro e w2 ⟨rfl, hb2⟩
  rw [show fromG (bits .xor .u64 s.a s.c) = outI s from rfl]
  have hz2 : DgAt w2 w.heap.size 23 (List.replicate 8 0) := Bk.later (Bk.drew HZ.out) hb2
  have HZ2 := Lib.hid hz2.heap
  have HB2 := Lib.hid ((HB.out.trans (below_draws _ _ 1)).trans (hb2.mono HB.out.size))
  clear hz2 hb2
  obtain ⟨C, hC⟩ : ∃ C, dgA (outI s) = C := ⟨_, rfl⟩
  have HC := Lib.hid hC
  rw [hC] at HI HO HS ⊢
  clear hC
  go_wp2_with (refine wpList_store_row rfl 23 _ _ rfl w.heap.size C rfl rfl 23 (dgA (List.replicate 8 0)) HZ2.out HI.out HS.out HO.out ?_)
  refine bodyPost_ret (results_cell_row (p := 2) (ty := 23) rfl _ _ w.heap.size 23 C (0, 0) _ rfl (setRow_heap _ _ _ _ _ _ HZ2.out) Tryd.underlying23 rfl HI.out) rfl ?_
  rw [← HC.out]
  exact ⟨rfl, below_setRow HB2.out (Nat.le_refl _) _⟩

theorem begin_any (w : World) (kind : Int) :
    Calls Tryd.prog 71 #[.int .u64 kind] w fun e w' => e = .returned (.agg #[.int .u64 (beginI kind).a, .int .u64 (beginI kind).b, .int .u64 (beginI kind).c, .int .u64 (beginI kind).d]) ∧ Below w.heap.size w w' := by
  go_enter Tryd.func71, Tryd.ntmps71
  go_wp2_with fail
  refine bodyPost_ret (v := .agg #[.int .u64 2611923443488327891, .int .u64 1376283091369227076, .int .u64 11820040416388919760, .int .u64 kind]) (by simp [results, Tryd.results71, go_sem]) rfl ⟨rfl, ?_⟩
  repeat (first | exact Below.refl _ _ | refine Below.setCell ?_ (by simp) _ | refine Below.alloc ?_ (by simp) _)
end Go.Proofs.YtakfdlokgddaoaaDoor

/-! Digests: two together. -/
namespace Go.Proofs.YtakfdlokgddaoaaDoor
open Go.RowKit

theorem DgAt.later {w w' : World} {g : Nat} {t : TypeId} {ds : List Int} (h : DgAt w g t ds) (hb : Below w.heap.size w w') : DgAt w' g t ds := Bk.later h hb
theorem StAt.later {w w' : World} {g : Nat} {t : TypeId} {s : St} (h : StAt w g t s) (hb : Below w.heap.size w w') : StAt w' g t s := Bk.later h hb
def twoI (a b : List Int) : List Int := outI (takeI (takeI (beginI 3) (numG a)) (numG b))
theorem twoI_ok (a b : List Int) : DgOk (twoI a b) := outI_ok _

set_option maxRecDepth 20000 in
theorem two_any (w : World) (a b : List Int) (ha : DgOk a) (hb : DgOk b) :
    Calls Tryd.prog 49 #[.agg (dgA a), .agg (dgA b)] w fun e w' => e = .returned (.agg (dgA (twoI a b))) ∧ Below w.heap.size w w' := by
  obtain ⟨w1, hw1⟩ : ∃ w1, ((w.alloc (.cells (dgA a) 23)).alloc (.cells (dgA b) 23)).alloc (.cells (dgA (List.replicate 8 0)) 23) = w1 := ⟨_, rfl⟩
  have ka : DgAt w1 w.heap.size 23 a := hw1 ▸ Bk.alloc (Bk.alloc (dg_new w _ a) _) _
  have kb : DgAt w1 (w.heap.size + 1) 23 b := hw1 ▸ Bk.alloc (Bk.at_ _ _ _ (by simp) (dgA_list b)) _
  have kz : DgAt w1 (w.heap.size + 1 + 1) 23 (List.replicate 8 0) := hw1 ▸ Bk.at_ _ _ _ (by simp) (dgA_list _)
  have hb1 : Below w.heap.size w w1 := hw1 ▸ ((below_new w _).alloc (by simp) _).alloc (by simp <;> omega) _
  have hz1 : w1.heap.size = w.heap.size + 1 + 1 + 1 := by rw [← hw1]; simp
  have HKA := Lib.hid ka; have HKB := Lib.hid kb; have HKZ := Lib.hid kz; have HB1 := Lib.hid hb1; have HW := Lib.hid hw1; have HZ1 := Lib.hid hz1
  have HIA := dg_info _ ha; have HIB := dg_info _ hb; have HA := Lib.hid ha; have HB := Lib.hid hb
  clear ka kb kz hb1 hw1 hz1 ha hb
  go_enter Tryd.func49, Tryd.ntmps49
  go_upto_region 1 with fail
  rw [zero8, HW.out]
  go_wp2_with fail
  refine (begin_any _ _).mono ?_
  rintro e w2 ⟨rfl, hb2⟩
  obtain ⟨s0, hs0⟩ : ∃ s0, beginI 3 = s0 := ⟨_, rfl⟩
  rw [hs0]
  have HS0 := Lib.hid hs0; clear hs0
  obtain ⟨w3, hw3⟩ : ∃ w3, w2.alloc (.cells #[.int .u64 s0.a, .int .u64 s0.b, .int .u64 s0.c, .int .u64 s0.d] 130) = w3 := ⟨_, rfl⟩
  obtain ⟨g, hg⟩ : ∃ g, w2.heap.size = g := ⟨_, rfl⟩
  have hs3 : StAt w3 g 130 s0 := hw3 ▸ Bk.at_ _ _ #[.int .u64 s0.a, .int .u64 s0.b, .int .u64 s0.c, .int .u64 s0.d] hg rfl
  have hb3 : Below w1.heap.size w1 w3 := hw3 ▸ hb2.trans ((below_new _ _).mono hb2.size)
  have hg1 : w1.heap.size ≤ g := by rw [← hg]; exact hb2.size
  have HW3 := Lib.hid hw3; have HS3 := Lib.hid hs3; have HB3 := Lib.hid hb3; have HG := Lib.hid hg
  clear hb2 hw3 hs3 hb3 hg
  have HC3 := Lib.hid (HKA.out.later HB3.out).heap
  go_upto_region 2 with fail
  rw [HW3.out, HG.out]
  go_wp2_with (refine wpList_load_row rfl 23 _ rfl w.heap.size rfl 23 (dgA a) (0, 0) _ HC3.out Tryd.underlying23 rfl HIA.out ?_)
  refine (num_any a HA.out _).mono ?_
  rintro e w4 ⟨rfl, hb4⟩
  have HB4 := Lib.hid (HB3.out.trans (hb4.mono HB3.out.size))
  have HS4 := Lib.hid (HS3.out.later hb4)
  clear hb4
  go_wp2_with fail
  refine (take_any _ _ _ HS4.out _).mono ?_
  rintro e w5 ⟨rfl, hs5, hg5⟩
  have HB5 := Lib.hid (below_only HB4.out hg5 HB4.out.size hg1)
  have HS5 := Lib.hid hs5
  clear hs5 hg5
  have HC5 := Lib.hid (HKB.out.later HB5.out).heap
  go_wp2_with (refine wpList_load_row rfl 23 _ rfl (w.heap.size + 1) rfl 23 (dgA b) (0, 0) _ HC5.out Tryd.underlying23 rfl HIB.out ?_)
  refine (num_any b HB.out _).mono ?_
  rintro e w6 ⟨rfl, hb6⟩
  have HB6 := Lib.hid (HB5.out.trans (hb6.mono HB5.out.size))
  have HS6 := Lib.hid (HS5.out.later hb6)
  clear hb6
  go_wp2_with fail
  refine (take_any _ _ _ HS6.out _).mono ?_
  rintro e w7 ⟨rfl, hs7, hg7⟩
  have HB7 := Lib.hid (below_only HB6.out hg7 HB6.out.size hg1)
  have HS7 := Lib.hid hs7
  clear hs7 hg7
  go_wp2_with fail
  refine (gives_any _ _ _ HS7.out).mono ?_
  rintro e w8 ⟨rfl, hb8⟩
  rw [show outI (takeI (takeI s0 (numG a)) (numG b)) = twoI a b by rw [← HS0.out]; rfl]
  have HB8 := Lib.hid (HB7.out.trans (hb8.mono HB7.out.size))
  clear hb8
  have HZ8 := Lib.hid (HKZ.out.later HB8.out).heap
  have HI := dg_info (twoI a b) (outI_ok _)
  have HO := Lib.hid (dgA_one (twoI a b))
  have HS : Hid ((dgA (List.replicate 8 0)).size = (dgA (twoI a b)).size) := by show _ = _; rw [dgA_size, dgA_size, (twoI_ok a b).len]; rfl
  obtain ⟨C, hC⟩ : ∃ C, dgA (twoI a b) = C := ⟨_, rfl⟩
  have HC := Lib.hid hC
  rw [hC] at HI HO HS ⊢
  clear hC
  go_wp2_with (refine wpList_store_row rfl 23 _ _ rfl (w.heap.size + 1 + 1) C rfl rfl 23 (dgA (List.replicate 8 0)) HZ8.out HI.out HS.out HO.out ?_)
  refine bodyPost_ret (results_cell_row (p := 4) (ty := 23) rfl _ _ (w.heap.size + 1 + 1) 23 C (0, 0) _ rfl (setRow_heap _ _ _ _ _ _ HZ8.out) Tryd.underlying23 rfl HI.out) rfl ?_
  rw [← HC.out]
  exact ⟨rfl, below_setRow (HB1.out.trans (HB8.out.mono (by rw [HZ1.out]; omega))) (by omega) _⟩

theorem list8 {α : Type} (l : List α) (h : l.length = 8) : ∃ a0 a1 a2 a3 a4 a5 a6 a7, l = [a0, a1, a2, a3, a4, a5, a6, a7] := by
  match l, h with
  | [a0, a1, a2, a3, a4, a5, a6, a7], _ => exact ⟨_, _, _, _, _, _, _, _, rfl⟩
theorem cells8 {w : World} {g : Nat} {t : TypeId} {a0 a1 a2 a3 a4 a5 a6 a7 : Int} (h : DgAt w g t [a0, a1, a2, a3, a4, a5, a6, a7]) : w.cell? ⟨g, 0, none⟩ = some (.int .u8 a0) ∧ w.cell? ⟨g, 1, none⟩ = some (.int .u8 a1) ∧ w.cell? ⟨g, 2, none⟩ = some (.int .u8 a2) ∧ w.cell? ⟨g, 3, none⟩ = some (.int .u8 a3) ∧ w.cell? ⟨g, 4, none⟩ = some (.int .u8 a4) ∧ w.cell? ⟨g, 5, none⟩ = some (.int .u8 a5) ∧ w.cell? ⟨g, 6, none⟩ = some (.int .u8 a6) ∧ w.cell? ⟨g, 7, none⟩ = some (.int .u8 a7) :=
  ⟨Bk.cell h 0, Bk.cell h 1, Bk.cell h 2, Bk.cell h 3, Bk.cell h 4, Bk.cell h 5, Bk.cell h 6, Bk.cell h 7⟩
theorem zeros8 {w : World} {g : Nat} {t : TypeId} (h : DgAt w g t (List.replicate 8 0)) : (w.cell? ⟨g, 0, none⟩ = some (.int .u8 0) ∧ w.cell? ⟨g, 1, none⟩ = some (.int .u8 0) ∧ w.cell? ⟨g, 2, none⟩ = some (.int .u8 0) ∧ w.cell? ⟨g, 3, none⟩ = some (.int .u8 0) ∧ w.cell? ⟨g, 4, none⟩ = some (.int .u8 0) ∧ w.cell? ⟨g, 5, none⟩ = some (.int .u8 0) ∧ w.cell? ⟨g, 6, none⟩ = some (.int .u8 0) ∧ w.cell? ⟨g, 7, none⟩ = some (.int .u8 0)) ∧ (∀ i, w.frozen? ⟨g, i, none⟩ = false) ∧ g < w.heap.size :=
  ⟨cells8 h, Bk.frozen h, Bk.lt h⟩
theorem cells16 {w w1 W : World} {t : TypeId} {a0 a1 a2 a3 a4 a5 a6 a7 b0 b1 b2 b3 b4 b5 b6 b7 : Int} (h : DgAt w1 w.heap.size t [a0, a1, a2, a3, a4, a5, a6, a7]) (h' : DgAt w1 (w.heap.size + 1) t [b0, b1, b2, b3, b4, b5, b6, b7]) (hb : Below w1.heap.size w1 W) : W.cell? ⟨w.heap.size, 0, none⟩ = some (.int .u8 a0) ∧ W.cell? ⟨w.heap.size, 1, none⟩ = some (.int .u8 a1) ∧ W.cell? ⟨w.heap.size, 2, none⟩ = some (.int .u8 a2) ∧ W.cell? ⟨w.heap.size, 3, none⟩ = some (.int .u8 a3) ∧ W.cell? ⟨w.heap.size, 4, none⟩ = some (.int .u8 a4) ∧ W.cell? ⟨w.heap.size, 5, none⟩ = some (.int .u8 a5) ∧ W.cell? ⟨w.heap.size, 6, none⟩ = some (.int .u8 a6) ∧ W.cell? ⟨w.heap.size, 7, none⟩ = some (.int .u8 a7) ∧ W.cell? ⟨w.heap.size + 1, 0, none⟩ = some (.int .u8 b0) ∧ W.cell? ⟨w.heap.size + 1, 1, none⟩ = some (.int .u8 b1) ∧ W.cell? ⟨w.heap.size + 1, 2, none⟩ = some (.int .u8 b2) ∧ W.cell? ⟨w.heap.size + 1, 3, none⟩ = some (.int .u8 b3) ∧ W.cell? ⟨w.heap.size + 1, 4, none⟩ = some (.int .u8 b4) ∧ W.cell? ⟨w.heap.size + 1, 5, none⟩ = some (.int .u8 b5) ∧ W.cell? ⟨w.heap.size + 1, 6, none⟩ = some (.int .u8 b6) ∧ W.cell? ⟨w.heap.size + 1, 7, none⟩ = some (.int .u8 b7) := by
  have h1 := h.later hb; have h2 := h'.later hb
  exact ⟨Bk.cell h1 0, Bk.cell h1 1, Bk.cell h1 2, Bk.cell h1 3, Bk.cell h1 4, Bk.cell h1 5, Bk.cell h1 6, Bk.cell h1 7, cells8 h2⟩

theorem cells16g {w w1 W : World} {t : TypeId} {a0 a1 a2 a3 a4 a5 a6 a7 b0 b1 b2 b3 b4 b5 b6 b7 : Int} (h : DgAt w1 w.heap.size t [a0, a1, a2, a3, a4, a5, a6, a7]) (h' : DgAt w1 (w.heap.size + 1) t [b0, b1, b2, b3, b4, b5, b6, b7]) {q : Nat} (hb : w1.grownBy W (some q)) (h1 : w.heap.size ≠ q) (h2 : w.heap.size + 1 ≠ q) : W.cell? ⟨w.heap.size, 0, none⟩ = some (.int .u8 a0) ∧ W.cell? ⟨w.heap.size, 1, none⟩ = some (.int .u8 a1) ∧ W.cell? ⟨w.heap.size, 2, none⟩ = some (.int .u8 a2) ∧ W.cell? ⟨w.heap.size, 3, none⟩ = some (.int .u8 a3) ∧ W.cell? ⟨w.heap.size, 4, none⟩ = some (.int .u8 a4) ∧ W.cell? ⟨w.heap.size, 5, none⟩ = some (.int .u8 a5) ∧ W.cell? ⟨w.heap.size, 6, none⟩ = some (.int .u8 a6) ∧ W.cell? ⟨w.heap.size, 7, none⟩ = some (.int .u8 a7) ∧ W.cell? ⟨w.heap.size + 1, 0, none⟩ = some (.int .u8 b0) ∧ W.cell? ⟨w.heap.size + 1, 1, none⟩ = some (.int .u8 b1) ∧ W.cell? ⟨w.heap.size + 1, 2, none⟩ = some (.int .u8 b2) ∧ W.cell? ⟨w.heap.size + 1, 3, none⟩ = some (.int .u8 b3) ∧ W.cell? ⟨w.heap.size + 1, 4, none⟩ = some (.int .u8 b4) ∧ W.cell? ⟨w.heap.size + 1, 5, none⟩ = some (.int .u8 b5) ∧ W.cell? ⟨w.heap.size + 1, 6, none⟩ = some (.int .u8 b6) ∧ W.cell? ⟨w.heap.size + 1, 7, none⟩ = some (.int .u8 b7) := by
  have h1 : DgAt W _ _ _ := Bk.grown h hb (by simpa using h1); have h2 : DgAt W _ _ _ := Bk.grown h' hb (by simpa using h2)
  exact ⟨Bk.cell h1 0, Bk.cell h1 1, Bk.cell h1 2, Bk.cell h1 3, Bk.cell h1 4, Bk.cell h1 5, Bk.cell h1 6, Bk.cell h1 7, cells8 h2⟩

end Go.Proofs.YtakfdlokgddaoaaDoor
