/- Slices of bytes put together: slices.Grow, slices.Concat, state.join. -/
import Derived.Test.YtbclfjdamklbpaaOA
import Derived.Lib.AppendZeros
namespace Go.Proofs.Ytbclfjdamklbpaa
open Go.RowKit

/-- A slice of bytes, and what it reads as. -/
structure Pc where
  A : Option Addr
  n : Nat
  c : Nat
  bs : List Int
def Pc.v (p : Pc) : Value := .slice p.A p.n p.c
def catP (ps : List Pc) : List Int := ps.flatMap Pc.bs
/-- Each of them lies in memory. -/
def PcsOk (w : World) (ps : List Pc) : Prop := ∀ p ∈ ps, Sl w w.heap.size 1 p.A p.n (p.bs.map (.int .u8))
theorem PcsOk.later {w w' : World} {ps : List Pc} (h : PcsOk w ps) (hb : Below w.heap.size w w') : PcsOk w' ps := fun p hp => (h p hp).later hb
theorem catP_snoc (ps : List Pc) (p : Pc) : catP (ps ++ [p]) = catP ps ++ p.bs := by simp [catP]
theorem catP_take {ps : List Pc} {k : Nat} {p : Pc} (h : ps[k]? = some p) : catP (ps.take (k + 1)) = catP (ps.take k) ++ p.bs := by rw [take_snoc h, catP_snoc]
theorem catP_le {ps : List Pc} (k : Nat) : (catP (ps.take k)).length ≤ (catP ps).length := by
  have : catP ps = catP (ps.take k) ++ catP (ps.drop k) := by unfold catP; rw [← List.flatMap_append, List.take_append_drop]
  rw [this, List.length_append]; omega

theorem zeroCells_len (z : Value) (hz : z.cells.size = 1) (n : Nat) : (Builtin.zeroCells z.cells n).size = n := by simp [Builtin.zeroCells, hz]

theorem grow_any (w : World) (n : Nat) (hn : n ≤ 4294967296) :
    Calls Try.prog 105 #[.slice none 0 0, .int .i64 n] w fun e w' => ∃ v, e = .returned v ∧ w'.ownsRow w.heap.size 5 1 v 0 [] ∧ Below w.heap.size w w' := by
  obtain ⟨i0, hi, hi0, hi1, hi2⟩ := info_parts Try.infoU8
  have h1 : ¬ ((n : Int) < 0) := by omega
  have h2 : IntKind.i64.wrap ((n : Int) - 0) = n := by rw [IntWalk.i64_in _ (by omega)]; omega
  by_cases h0 : 0 < n
  · have h3 : (0 : Int) < n := by omega
    have hrun := fun ty => Lib.run_append_nil_zeros (P := Try.prog) w 56 3 ty 5 i0 (.int .u8 0) .i64 .i64 Try.underlying56 Try.underlying3 hi hi0 n h0 (by omega) (by omega) (by rw [hi2]; omega)
    have hcap := grownCap_ge w n 0 5
    have hcap2 := grownCap_le_maxLen w n 0 5 (by unfold maxLen; omega)
    obtain ⟨cp, hcp⟩ : ∃ cp, grownCap w n 0 5 = cp := ⟨_, rfl⟩
    rw [hcp] at hcap hcap2 hrun
    obtain ⟨cs, hcs⟩ : ∃ cs, Builtin.zeroCells (Value.int .u8 0).cells n ++ Builtin.zeroCells (Value.int .u8 0).cells (cp - n) = cs := ⟨_, rfl⟩
    have hl : cs.size = cp := by rw [← hcs, Array.size_append, zeroCells_len _ rfl, zeroCells_len _ rfl]; omega
    rw [hcs] at hrun
    have hbk : Bk (w.drew.alloc (.cells cs 5)) w.heap.size 5 cs.toList := Bk.new w.drew _ _
    have hown := hbk.own (base := w.heap.size) (size := 1) (n := 0) (cap := cp) (ys := []) (Nat.le_refl _) (by omega) (by unfold maxLen at hcap2; omega) (by simpa using hl) (by simp)
    have hb : Below w.heap.size w (w.drew.alloc (.cells cs 5)) := (Below.refl _ w).drew.alloc (Nat.le_refl _) _
    have HR := Lib.hid hrun; have HO := Lib.hid hown; have HB := Lib.hid hb
    have hci : (0 : Int) ≤ cp := by omega
    clear hrun hown hb hbk hcs hl hcp
    go_enter Try.func105, Try.ntmps105
    go_wp2_with (at_builtin; refine Lib.wpList_append_run _ rfl _ _ _ _ rfl _ _ rfl rfl _ _ (HR.out _) ?_)
    go_ret
    exact ⟨_, rfl, HO.out, HB.out⟩
  · obtain rfl : n = 0 := by omega
    go_enter Try.func105, Try.ntmps105
    go_wp2_with fail
    go_ret
    exact ⟨_, rfl, World.ownsRow_nil _ _ _ _, Below.refl _ _⟩

set_option maxRecDepth 20000 in
theorem concat_any (w : World) (A : Option Addr) (n c : Nat) (ps : List Pc) (hs : Sl w w.heap.size 1 A n (ps.map Pc.v)) (hp : PcsOk w ps) (hn : n ≤ 1048576) (hl : (catP ps).length ≤ 4294967296) :
    Calls Try.prog 92 #[.slice A n c] w (RetB w.heap.size (catP ps) w) := by
  obtain ⟨i0, hi, hi0, hi1, hi2⟩ := info_parts Try.infoU8
  have hlen := hs.length
  have HS := Lib.hid hs; have HP := Lib.hid hp; have HL := Lib.hid hlen; have HM := Lib.hid hl
  clear hs hp hlen hl
  go_enter Try.func92, Try.ntmps92
  go_wp2_with fail
  go_loopw [3, 11] (fun sv iv wr => ∃ k s : Nat, k ≤ n ∧ iv = .int .i64 k ∧ sv = .int .i64 s ∧ w = wr ∧ Hid (s = (catP (ps.take k)).length)) (fun _ iv _ => n - (intOf iv).toNat)
  case atStart => exact ⟨0, 0, Nat.zero_le _, rfl, rfl, rfl, rfl⟩
  case round =>
    obtain ⟨k, s, hk, rfl, rfl, rfl, HSU⟩ := hrel
    by_cases hlt : k < n
    · obtain ⟨ad, p, rfl, hb, hz, hc⟩ := HS.out.atg hlt
      have hpo := (HP.out p (List.mem_of_getElem? hz)).length
      have hsum : s + p.n ≤ 4294967296 := by
        have h1 := catP_le (ps := ps) (k + 1)
        rw [catP_take hz, List.length_append, ← HSU.out, hpo] at h1
        have := HM.out; omega
      have hki : (k : Int) < n := by omega
      have hw1 : IntKind.i64.wrap ((s : Int) + p.n) = ((s + p.n : Nat) : Int) := by rw [IntWalk.i64_in _ (by omega)]; omega
      have hneg : ¬ (((s + p.n : Nat) : Int) < 0) := by omega
      have HSU2 : Hid (s + p.n = (catP (ps.take (k + 1))).length) := by show _ = _; rw [catP_take hz, List.length_append, ← HSU.out, hpo]
      obtain ⟨sn, hsn⟩ : ∃ sn, s + p.n = sn := ⟨_, rfl⟩
      rw [hsn] at hw1 hneg HSU2
      rw [show Pc.v p = .slice p.A p.n p.c from rfl] at hc
      clear hz hsn hpo
      go_wp2_with fail
      go_roundw
      case rel => exact ⟨k + 1, sn, by omega, by go_num, by first | rfl | trivial, by first | rfl | trivial, HSU2⟩
      case measure => simp [intOf]; omega
    · obtain rfl : k = n := by omega
      have hsn : s ≤ 4294967296 := by
        have h1 := catP_le (ps := ps) k
        have := HM.out; rw [HSU.out]; omega
      go_wp2_with fail
      refine (grow_any _ s hsn).mono ?_
      rintro e w1 ⟨v1, rfl, hown, hb1⟩
      have HO1 := Lib.hid hown; have HB1 := Lib.hid hb1
      clear hown hb1
      go_wp2_with fail
      go_loopw [6, 27] (fun ov iv wr => ∃ j q : Nat, j ≤ k ∧ iv = .int .i64 j ∧ Hid (q = (catP (ps.take j)).length) ∧ Hid (wr.ownsRow w.heap.size 5 1 ov q ((catP (ps.take j)).map (.int .u8))) ∧ Hid (Below w.heap.size w wr)) (fun _ iv _ => k - (intOf iv).toNat)
      case atStart => exact ⟨0, 0, Nat.zero_le _, rfl, rfl, HO1.out, HB1.out⟩
      case round =>
        obtain ⟨j, q, hj, rfl, HQ, HO, HB⟩ := hrel
        by_cases hlt : j < k
        · obtain ⟨ad, p, rfl, hb, hz, hc0⟩ := HS.out.atg hlt
          have hc := (HB.out.cell (by rw [add_block]; exact hb)).trans hc0
          have HPO := Lib.hid ((HP.out p (List.mem_of_getElem? hz)).below HB.out)
          have hpo := HPO.out.length
          have hsum : q + p.n ≤ 4294967296 := by
            have h1 := catP_le (ps := ps) (j + 1)
            rw [catP_take hz, List.length_append, ← HQ.out, hpo] at h1
            have := HM.out; omega
          have hki : (j : Int) < k := by omega
          rw [show Pc.v p = .slice p.A p.n p.c from rfl] at hc
          have HZ := Lib.hid hz
          have HPN := Lib.hid hpo
          clear hz hc0 hpo
          go_wp2_with (at_builtin; refine wpList_app _ rfl (.tmp 31) (.tmp 32) 56 rfl w.heap.size 5 i0 (.int .u8 0) 1 1 Try.underlying56 hi hi0 hi1 hi2 rfl (by decide) _ q _ rfl HO.out _ _ p.n p.c (p.bs.map (.int .u8)) rfl HPO.out (ints_one _ _) (by unfold maxLen; omega) (by omega) HB.out.size ?_; intro v3 w3 hown3 hg3 hat3; have HB3 := Lib.hid (grown_below HB.out HO.out hg3 (Nat.le_refl _) HB.out.size); have HO3 := Lib.hid hown3; clear hown3 hg3 hat3)
          go_roundw
          case rel =>
            refine ⟨j + 1, q + p.n, by omega, by go_num, ?_, ?_, HB3⟩
            · show _ = _; rw [catP_take HZ.out, List.length_append, ← HQ.out, HPN.out]
            · show World.ownsRow _ _ _ _ _ _ _
              rw [catP_take HZ.out, List.map_append]
              exact HO3.out
          case measure => simp [intOf]; omega
        · obtain rfl : j = k := by omega
          have hown := HO.out
          rw [HQ.out, List.take_of_length_le (by rw [HL.out]; omega)] at hown
          have HF := Lib.hid hown
          clear hown
          go_wp2_with fail
          go_ret
          exact ⟨_, rfl, HF.out, HB.out⟩

theorem join_any (w : World) (A : Option Addr) (n c : Nat) (ps : List Pc) (hs : Sl w w.heap.size 1 A n (ps.map Pc.v)) (hp : PcsOk w ps) (hn : n ≤ 1048576) (hl : (catP ps).length ≤ 4294967296) :
    Calls Try.prog 75 #[.slice A n c] w (RetB w.heap.size (catP ps) w) := by
  have HS := Lib.hid hs; have HP := Lib.hid hp
  clear hs hp
  go_enter Try.func75, Try.ntmps75
  go_wp2_with fail
  refine (concat_any _ A n c ps HS.out HP.out hn hl).mono ?_
  rintro e w2 ⟨v2, rfl, hown2, hb2⟩
  have HB2 := Lib.hid hb2; have HO2 := Lib.hid hown2
  clear hb2 hown2
  go_wp2_with fail
  go_ret
  exact ⟨_, rfl, HO2.out, HB2.out⟩

/-! The pieces. -/
def lstB (x : List Int) : List Int := numB x.length ++ x
theorem lstB_len (x : List Int) : (lstB x).length ≤ x.length + 10 := by
  have := (numF_len 9 x.length).2
  simp [lstB, numB]; omega
theorem stext_any (w : World) (s : ByteArray) (hn : s.size ≤ 1073741824) : Calls Try.prog 71 #[.string s] w (RetB w.heap.size (lstB (bytesOf s)) w) := by
  have e : lstB (bytesOf s) = [] ++ (numB s.size ++ bytesOf s) := by rw [lstB, bytesOf_len]; rfl
  rw [e]
  have HE := Lib.hid e
  clear e
  go_enter Try.func71, Try.ntmps71
  go_wp2_with fail
  refine (putText_any w none 0 0 [] s Sl.nil (by omega) hn).mono ?_
  rintro e w2 ⟨v2, rfl, hown2, hb2⟩
  have HB2 := Lib.hid hb2; have HO2 := Lib.hid hown2
  clear hb2 hown2
  go_wp2_with fail
  go_ret
  exact ⟨_, rfl, HO2.out, HB2.out⟩
theorem slist_any (w : World) (A : Option Addr) (n c : Nat) (bs : List Int) (hs : Sl w w.heap.size 1 A n (bs.map (.int .u8))) (hn : n ≤ 1073741824) : Calls Try.prog 72 #[.slice A n c] w (RetB w.heap.size (lstB bs) w) := by
  have e : lstB bs = [] ++ (numB n ++ bs) := by rw [lstB, hs.length]; rfl
  rw [e]
  have HE := Lib.hid e; have HS := Lib.hid hs
  clear e hs
  go_enter Try.func72, Try.ntmps72
  go_wp2_with fail
  refine (putBytes_any w none A 0 0 n c [] bs Sl.nil HS.out (by omega) hn).mono ?_
  rintro e w2 ⟨v2, rfl, hown2, hb2⟩
  have HB2 := Lib.hid hb2; have HO2 := Lib.hid hown2
  clear hb2 hown2
  go_wp2_with fail
  go_ret
  exact ⟨_, rfl, HO2.out, HB2.out⟩
theorem snumber_any (w : World) (k : Int) (hk0 : Hid (-9223372036854775808 ≤ k)) (hk1 : Hid (k < 9223372036854775808)) : Calls Try.prog 74 #[.int .i64 k] w (RetB w.heap.size (numB (foldI k)) w) := by
  have hw : IntKind.i64.wrap k = k := IntWalk.i64_in _ ⟨hk0.out, by have := hk1.out; omega⟩
  go_enter Try.func74, Try.ntmps74
  go_wp2_with fail
  refine (putInt_any w none 0 0 [] Sl.nil k hk0 hk1 (by omega)).mono ?_
  rintro e w2 ⟨v2, rfl, hown2, hb2⟩
  have HB2 := Lib.hid hb2; have HO2 := Lib.hid hown2
  clear hb2 hown2
  go_wp2_with fail
  go_ret
  exact ⟨_, rfl, HO2.out, HB2.out⟩
theorem scount_any (w : World) (k : Nat) (hk : k < 9223372036854775808) : Calls Try.prog 73 #[.int .i64 k] w (RetB w.heap.size (numB k) w) := by
  have hw : IntKind.u64.wrap (k : Int) = k := by rw [IntKind.wrap_u64]; omega
  have HK : Hid (k < 18446744073709551616) := by show _ < _; omega
  go_enter Try.func73, Try.ntmps73
  go_wp2_with fail
  refine (putNum_any w none 0 0 [] Sl.nil k HK (by omega)).mono ?_
  rintro e w2 ⟨v2, rfl, hown2, hb2⟩
  have HB2 := Lib.hid hb2; have HO2 := Lib.hid hown2
  clear hb2 hown2
  go_wp2_with fail
  go_ret
  exact ⟨_, rfl, HO2.out, HB2.out⟩
end Go.Proofs.Ytbclfjdamklbpaa
