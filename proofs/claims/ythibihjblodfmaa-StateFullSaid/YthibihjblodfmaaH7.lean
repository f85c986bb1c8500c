/- Digests: bytes are taken in. -/
import Derived.Test.YthibihjblodfmaaH6
namespace Go.Proofs.Ythibihjblodfmaa
open Go.RowKit

def chunksI : Nat → St → List Int → St
  | 0, s, _ => s
  | k + 1, s, l => chunksI k (takeI s (numG (l.take 8))) (l.drop 8)
theorem chunks_snoc : ∀ (k : Nat) (s : St) (l : List Int), chunksI (k + 1) s l = takeI (chunksI k s l) (numG ((l.drop (8 * k)).take 8))
  | 0, s, l => by simp [chunksI]
  | k + 1, s, l => by
    rw [chunksI, chunks_snoc k, chunksI, List.drop_drop]
    congr 4
    omega
theorem chunks_append : ∀ (k : Nat) (s : St) (l m : List Int), 8 * k ≤ l.length → chunksI k s (l ++ m) = chunksI k s l
  | 0, s, l, m, _ => rfl
  | k + 1, s, l, m, h => by
    rw [chunksI, chunksI, List.take_append_of_le_length (by omega), List.drop_append_of_le_length (by omega)]
    exact chunks_append k _ _ m (by rw [List.length_drop]; omega)
/-- Eight bytes of a list. -/
def eightI (l : List Int) (k : Nat) : List Int := (l.drop (8 * k)).take 8
theorem eight_ok {l : List Int} (h : ByOk l) {k : Nat} (hk : 8 * k + 8 ≤ l.length) : DgOk (eightI l k) := ⟨by simp [eightI]; omega, (h.drop _).take _⟩
theorem sl_range {w : World} {B n b o : Nat} {l : List Int} (h : Sl w B 1 (some ⟨b, o, none⟩) n (l.map (.int .u8))) {k : Nat} (hk : 8 * k + 8 ≤ n) : w.rangeAt b (o + k * 8) ((eightI l k).map (.int .u8)) := by
  intro j v hv
  obtain ⟨ad, e, _, hc⟩ := h.mem (by omega)
  injection e with e; subst e
  have hl := h.length
  rw [List.getElem?_map, eightI, List.getElem?_take] at hv
  by_cases hj : j < 8
  · rw [if_pos hj, List.getElem?_drop] at hv
    have := hc (8 * k + j) v (by rw [List.getElem?_map]; exact hv)
    rw [add_plain] at this
    rw [Nat.add_assoc, Nat.mul_comm k 8]; exact this
  · rw [if_neg hj] at hv; simp at hv

theorem run_arrayAt_eight (a : Addr) (c : Nat) (w : World) : (Instr.arrayAt 29 (.slice (some a) 8 c)).run Try.prog w = .ok (.pointer (some a)) w := by
  simp [Instr.arrayAt, run_underlying Try.underlying29]
set_option maxRecDepth 20000 in
theorem whole_any (w : World) (g : Nat) (s : St) (h : StAt w g 182 s) (A : Option Addr) (n c : Nat) (bs : List Int) (hs : Sl w w.heap.size 1 A n (bs.map (.int .u8))) (hb : ByOk bs) (hc : n ≤ c) (hA : ∀ ad, A = some ad → ad.block ≠ g) :
    Calls Try.prog 133 #[.pointer (some ⟨g, 0, none⟩), .slice A n c] w fun e w' => e = .returned (.tuple #[]) ∧ StAt w' g 182 (chunksI (n / 8) s bs) ∧ w.grownBy w' (some g) := by
  have hn := hs.le
  have HL := Lib.hid hs.length
  have hbs := hs
  have HST := Lib.hid h; have HSL := Lib.hid hs; have HBY := Lib.hid hb; have HNA := Lib.hid hA
  have hq : 8 * (n / 8) ≤ n := by omega
  obtain ⟨m, hm⟩ : ∃ m, n / 8 = m := ⟨_, rfl⟩
  have hmi : ((n : Int) / 8) = (m : Int) := by omega
  rw [hm] at hq ⊢
  clear h hs hbs hb hA
  go_enter Try.func133, Try.ntmps133
  go_wp2_with fail
  go_loopw [8] (fun i wr => ∃ k : Nat, k ≤ m ∧ i = .int .i64 k ∧ StAt wr g 182 (chunksI k s bs) ∧ w.grownBy wr (some g)) (fun i _ => m - (intOf i).toNat)
  case atStart => exact ⟨0, by omega, rfl, HST.out, only_refl _ _⟩
  case round =>
    obtain ⟨k, hk, rfl, hst, hg⟩ := hrel
    by_cases hlt : k < m
    · obtain ⟨b, o, rfl, hbb, _⟩ := HSL.out.spot (by omega) (by omega)
      have hng := HNA.out _ rfl
      have hsl : Sl wr wr.heap.size 1 (some ⟨b, o, none⟩) n (bs.map (.int .u8)) := sl_apart HSL.out hg HNA.out
      have hr := sl_range hsl (k := k) (by omega)
      have hok := eight_ok HBY.out (k := k) (by rw [HL.out]; omega)
      have HST2 := Lib.hid hst; have HG := Lib.hid hg; have HR := Lib.hid hr; have HOK := Lib.hid hok
      clear hst hg hsl hr hok
      have hk1 : (k : Int) < m := by omega
      have har := run_arrayAt_eight ⟨b, o + k * 8, none⟩ (c - k * 8)
      have HI8 : Hid ((Try.prog.info? 29).map (·.size) = some ((eightI bs k).map (Value.int .u8)).length) := by
        show _ = _
        rw [List.length_map, HOK.out.len]; exact dg_size
      go_wp2_with (refine wpList_load_mid rfl 29 _ rfl b (o + k * 8) rfl ((eightI bs k).map (.int .u8)) _ HR.out Try.underlying29 rfl HI8.out ?_)
      refine (num_any (eightI bs k) HOK.out _).mono ?_
      rintro e w2 ⟨rfl, hb2⟩
      have HS2 := Lib.hid (HST2.out.later hb2)
      have HG2 := Lib.hid (only_below HG.out hb2)
      clear hb2
      go_wp2_with fail
      refine (take_any _ _ _ HS2.out _).mono ?_
      rintro e w3 ⟨rfl, hs3, hg3⟩
      have HS3 := Lib.hid hs3; have HG3 := Lib.hid (only_trans HG2.out hg3)
      clear hs3 hg3
      go_wp2_with fail
      go_roundw
      case rel => exact ⟨k + 1, by omega, by go_num, by rw [chunks_snoc]; exact HS3.out, HG3.out⟩
      case measure => simp [intOf]; omega
    · obtain rfl : k = m := by omega
      have HST2 := Lib.hid hst; have HG := Lib.hid hg
      clear hst hg
      go_wp2_with fail
      go_end0
      exact ⟨rfl, HST2.out, HG.out⟩
end Go.Proofs.Ythibihjblodfmaa
