/- Digests: the bytes' end. -/
import Derived.Test.YthibihjblodfmaaH7
namespace Go.Proofs.Ythibihjblodfmaa
open Go.RowKit

def lastI (bs : List Int) : List Int := bs.drop (8 * (bs.length / 8)) ++ 1 :: List.replicate (7 - bs.length % 8) 0
def endI (s : St) (bs : List Int) : St := takeI (takeI s (numG (lastI bs))) bs.length
def bytesI (s : St) (bs : List Int) : St := endI (chunksI (bs.length / 8) s bs) bs
theorem last_ok {bs : List Int} (h : ByOk bs) : DgOk (lastI bs) := by
  refine ⟨by simp [lastI]; omega, fun b hb => ?_⟩
  simp only [lastI, List.mem_append, List.mem_cons, List.mem_replicate] at hb
  rcases hb with hb | rfl | ⟨_, rfl⟩
  · exact h.drop _ b hb
  · omega
  · omega
theorem last_list (bs : List Int) (n m : Nat) (hn : bs.length = n) (hm : n / 8 = m) :
    (splice ((List.replicate 8 0).map (Value.int .u8)) 0 ((bs.drop (8 * m)).map (Value.int .u8))).set (n - 8 * m) (.int .u8 1) = (lastI bs).map (Value.int .u8) := by
  subst hn; subst hm
  have hl : (bs.drop (8 * (bs.length / 8))).length = bs.length - 8 * (bs.length / 8) := by simp
  unfold splice lastI
  simp only [List.take_zero, List.nil_append, Nat.zero_add, List.length_map, hl, List.map_append, List.map_cons, List.map_replicate, List.drop_replicate]
  rw [List.set_append, if_neg (by simp), List.length_map, hl, Nat.sub_self]
  have e : 8 - (bs.length - 8 * (bs.length / 8)) = (7 - bs.length % 8) + 1 := by omega
  rw [e, List.replicate_succ, List.set_cons_zero]

set_option maxRecDepth 20000 in
set_option maxHeartbeats 400000 in
theorem end_any (w : World) (g : Nat) (s : St) (h : StAt w g 182 s) (A : Option Addr) (n c : Nat) (bs : List Int) (hs : Sl w w.heap.size 1 A n (bs.map (.int .u8))) (hb : ByOk bs) (hc : n ≤ c) :
    Calls Try.prog 134 #[.pointer (some ⟨g, 0, none⟩), .slice A n c] w fun e w' => e = .returned (.tuple #[]) ∧ StAt w' g 182 (endI s bs) ∧ w.grownBy w' (some g) := by
  have hn := hs.le
  have hlen := hs.length
  obtain ⟨m, hm⟩ : ∃ m, n / 8 = m := ⟨_, rfl⟩
  have hmi : ((n : Int) / 8) = (m : Int) := by omega
  have hll := Lib.hid (last_list bs n m hlen hm)
  have hgl : g < w.heap.size := Bk.lt h
  obtain ⟨w1, hw1⟩ : ∃ w1, w.alloc (.cells (dgA (List.replicate 8 0)) 29) = w1 := ⟨_, rfl⟩
  have hz : DgAt w1 w.heap.size 29 (List.replicate 8 0) := hw1 ▸ dg_new w 29 (List.replicate 8 0)
  have hb1 : Below w.heap.size w w1 := hw1 ▸ below_new w (.cells (dgA (List.replicate 8 0)) 29)
  have HZ := Lib.hid hz; have HB1 := Lib.hid hb1; have HW := Lib.hid hw1; have HS := Lib.hid h; have HSL := Lib.hid hs; have HY := Lib.hid hb; have HL := Lib.hid hlen
  have hmn : m * 8 ≤ n := by omega
  have h0m : (0 : Int) ≤ (m : Int) * 8 := by omega
  have h1m : (m : Int) * 8 ≤ n := by omega
  have w1m : IntKind.i64.wrap (m : Int) = m := IntWalk.i64_in _ (by omega)
  have w2m : IntKind.i64.wrap ((m : Int) * 8) = (m : Int) * 8 := IntWalk.i64_in _ (by omega)
  have w3m : ((m : Int) * 8).toNat = m * 8 := by omega
  have W1 := Lib.hid w1m; have W2 := Lib.hid w2m; have W3 := Lib.hid w3m
  clear w1m w2m w3m
  have hm2 : n < m * 8 + 8 := by omega
  have hsrc : ∀ ad, A = some ad → ∀ (j : Nat) (v : Value), ((bs.drop (8 * m)).map (Value.int .u8))[j]? = some v → w1.cell? ((ad.add (m * 8)).add j) = some v := by
    intro ad e j v hv
    have hj : 8 * m + j < n := by
      have := (List.getElem?_eq_some_iff.1 hv).1
      simp [hlen] at this; omega
    obtain ⟨ad', e', hbl, hcc⟩ := (hs.below hb1).mem (by omega)
    rw [e] at e'; injection e' with e'; subst e'
    rw [List.getElem?_map, List.getElem?_drop] at hv
    rw [add_add', Nat.mul_comm m 8]
    exact hcc _ _ (by rw [List.getElem?_map]; exact hv)
  have HSRC := Lib.hid hsrc
  have hAn : A = none → n = 0 := by
    rintro rfl
    rcases Nat.eq_zero_or_pos n with h0 | h0
    · exact h0
    · obtain ⟨_, e, _⟩ := hs.mem h0; cases e
  have HAN := Lib.hid hAn
  clear h hs hb hlen hz hb1 hw1 hsrc hAn
  go_enter Try.func134, Try.ntmps134
  go_upto_region 1 with fail
  rw [zero8, HW.out]
  have w1m := W1.out; have w2m := W2.out; have w3m := W3.out
  go_still_tail 7, (by kernel_rfl)
  clear w1m w2m w3m
  obtain ⟨A', hA'⟩ : ∃ A', (if c = m * 8 then A else Option.map (fun x => x.add (m * 8)) A) = A' := ⟨_, rfl⟩
  rw [hA']
  change wpList _ _ _ _ _ w1.drew
  have hcl : ((bs.drop (8 * m)).map (Value.int .u8)).length = n - m * 8 := by simp [HL.out]; omega
  refine wpList_copy_splice rfl (.tmp 6) (.tmp 12) 23 23 rfl 5 Try.underlying23 (by kernel_rfl) (some ⟨w.heap.size, 0, none⟩) A' 8 8 (n - m * 8) (c - m * 8) rfl rfl w.heap.size 0
    ((List.replicate 8 0).map (.int .u8)) 29 HZ.out ((bs.drop (8 * m)).map (.int .u8)) (by rw [hcl]; exact (Nat.min_eq_left (by omega)).symm) (fun hp => ?_) (by rw [hcl]; simp; omega) (ints_one _ _) w.heap.size w (HB1.out.trans (below_draws w1 _ 1)) (Nat.le_refl _) ?_
  · refine ⟨rfl, ?_⟩
    rw [hcl] at hp
    have hcm : c ≠ m * 8 := by omega
    rw [if_neg hcm] at hA'
    cases hA : A with
    | none => have := HAN.out hA; omega
    | some ad =>
      rw [hA] at hA'
      exact ⟨_, hA'.symm, HSRC.out ad hA⟩
  intro w2 hg2 hb2
  rw [hcl]
  have hlt2 : g < w2.heap.size := Nat.lt_of_lt_of_le hgl hb2.size
  have hlD : w.heap.size < w2.heap.size := by
    rcases Nat.lt_or_ge w.heap.size w2.heap.size with h | h
    · exact h
    · have := hg2.out; rw [Array.getElem?_eq_none h] at this; cases this
  have hD : Bk w2 w.heap.size 29 (splice ((List.replicate 8 0).map (Value.int .u8)) 0 ((bs.drop (8 * m)).map (Value.int .u8))) := hg2.out
  have hDs := hD.set_ (n - 8 * m) (.int .u8 1)
  rw [hll.out] at hDs
  have hns : (splice ((List.replicate 8 0).map (Value.int .u8)) 0 ((bs.drop (8 * m)).map (Value.int .u8))).length = 8 := by
    unfold splice; simp [HL.out]; omega
  have hcell : (w2.cell? ⟨w.heap.size, n - m * 8, none⟩).isSome = true := by
    rw [hD.cell, List.getElem?_eq_getElem (by rw [hns]; omega)]; rfl
  obtain ⟨v0, hv0⟩ := Option.isSome_iff_exists.1 hcell
  have hfr := hD.frozen (n - m * 8)
  rw [Nat.mul_comm 8 m] at hDs
  have HD := Lib.hid hDs; have HB2 := Lib.hid hb2
  have h8 : ((n - m * 8 : Nat) : Int) < 8 := by omega
  have h08 : (0 : Int) ≤ ((n - m * 8 : Nat) : Int) := by omega
  obtain ⟨r, hr⟩ : ∃ r, n - m * 8 = r := ⟨_, rfl⟩
  rw [hr] at HD h8 h08 hv0 hfr ⊢
  clear hD hDs hb2 hg2 hcell hns hA' hcl hr
  have HDH := Lib.hid (DgAt.heap HD.out)
  have HIL := dg_info (lastI bs) (last_ok HY.out)
  go_wp2_with (refine wpList_load_row rfl 29 _ rfl w.heap.size rfl 29 (dgA (lastI bs)) (0, 0) _ HDH.out Try.underlying29 rfl HIL.out ?_)
  refine (num_any _ (last_ok HY.out) _).mono ?_
  rintro e w3 ⟨rfl, hb3⟩
  have hbb : Below w.heap.size w w3 := (HB2.out.setCell (Nat.le_refl _) _).trans (hb3.mono (by simpa using Nat.le_of_lt hlD))
  have HS3 := Lib.hid (HS.out.later hbb); have HG3 := Lib.hid (only_below (only_refl w g) hbb)
  clear hb3 hbb HD HDH
  go_wp2_with fail
  refine (take_any _ _ _ HS3.out _).mono ?_
  rintro e w4 ⟨rfl, hs4, hg4⟩
  have HS4 := Lib.hid hs4; have HG4 := Lib.hid (only_trans HG3.out hg4)
  clear hs4 hg4
  go_wp2_with fail
  refine (take_any _ _ _ HS4.out _).mono ?_
  rintro e w5 ⟨rfl, hs5, hg5⟩
  have HS5 := Lib.hid hs5; have HG5 := Lib.hid (only_trans HG4.out hg5)
  clear hs5 hg5
  go_wp2_with fail
  go_end0
  exact ⟨rfl, by rw [endI, HL.out]; exact HS5.out, HG5.out⟩

theorem bytes_any (w : World) (g : Nat) (s : St) (h : StAt w g 182 s) (A : Option Addr) (n c : Nat) (bs : List Int) (hs : Sl w w.heap.size 1 A n (bs.map (.int .u8))) (hb : ByOk bs) (hc : n ≤ c) (hA : ∀ ad, A = some ad → ad.block ≠ g) :
    Calls Try.prog 124 #[.pointer (some ⟨g, 0, none⟩), .slice A n c] w fun e w' => e = .returned (.tuple #[]) ∧ StAt w' g 182 (bytesI s bs) ∧ w.grownBy w' (some g) := by
  have HS := Lib.hid h; have HL := Lib.hid hs; have HY := Lib.hid hb; have HA := Lib.hid hA; have HN := Lib.hid hs.length
  clear h hs hb hA
  go_enter Try.func124, Try.ntmps124
  go_wp2_with fail
  refine (whole_any _ _ _ HS.out _ _ _ _ HL.out HY.out hc HA.out).mono ?_
  rintro e w2 ⟨rfl, hs2, hg2⟩
  have HS2 := Lib.hid hs2; have HG2 := Lib.hid hg2
  clear hs2 hg2
  go_wp2_with fail
  refine (end_any _ _ _ HS2.out _ _ _ _ (sl_apart HL.out HG2.out HA.out) HY.out hc).mono ?_
  rintro e w3 ⟨rfl, hs3, hg3⟩
  have HS3 := Lib.hid hs3; have HG3 := Lib.hid (only_trans HG2.out hg3)
  clear hs3 hg3
  go_wp2_with fail
  go_end0
  exact ⟨rfl, by rw [bytesI, HN.out]; exact HS3.out, HG3.out⟩
end Go.Proofs.Ythibihjblodfmaa
