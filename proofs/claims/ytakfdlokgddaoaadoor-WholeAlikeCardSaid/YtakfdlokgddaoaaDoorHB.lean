/- Digests: bytes are taken in. Digests: the bytes' end. Digests: a digest with a word. Digests: the document's bytes. -/
import Derived.Test.YtakfdlokgddaoaaDoorHA
import Derived.Deep.DeepCutAuto
/-! Digests: bytes are taken in. -/
namespace Go.Proofs.YtakfdlokgddaoaaDoor
open Go.RowKit

def chunksI : Nat → St → List Int → St
  | 0, s, _ => s
  | k + 1, s, l => chunksI k (takeI s (numG (l.take 8))) (l.drop 8)
theorem chunks_snoc : ∀ (k : Nat) (s : St) (l : List Int), chunksI (k + 1) s l = takeI (chunksI k s l) (numG ((l.drop (8 * k)).take 8))
  | 0, s, l => by simp [chunksI]
  | k + 1, s, l => by
    rw [chunksI, chunks_snoc k, chunksI, List.drop_drop]
    congr 4
    omega
theorem chunks_append : ∀ (k : Nat) (s : St) (l m : List Int), 8 * k ≤ l.length → chunksI k s (l ++ m) = chunksI k s l
  | 0, s, l, m, _ => rfl
  | k + 1, s, l, m, h => by
    rw [chunksI, chunksI, List.take_append_of_le_length (by omega), List.drop_append_of_le_length (by omega)]
    exact chunks_append k _ _ m (by rw [List.length_drop]; omega)
/-- Eight bytes of a list. -/
def eightI (l : List Int) (k : Nat) : List Int := (l.drop (8 * k)).take 8
theorem eight_ok {l : List Int} (h : ByOk l) {k : Nat} (hk : 8 * k + 8 ≤ l.length) : DgOk (eightI l k) := ⟨by simp [eightI]; omega, (h.drop _).take _⟩
theorem sl_range {w : World} {B n b o : Nat} {l : List Int} (h : Sl w B 1 (some ⟨b, o, none⟩) n (l.map (.int .u8))) {k : Nat} (hk : 8 * k + 8 ≤ n) : w.rangeAt b (o + k * 8) ((eightI l k).map (.int .u8)) := by
  intro j v hv
  obtain ⟨ad, e, _, hc⟩ := h.mem (by omega)
  injection e with e; subst e
  have hl := h.length
  rw [List.getElem?_map, eightI, List.getElem?_take] at hv
  by_cases hj : j < 8
  · rw [if_pos hj, List.getElem?_drop] at hv
    have := hc (8 * k + j) v (by rw [List.getElem?_map]; exact hv)
    rw [add_plain] at this
    rw [Nat.add_assoc, Nat.mul_comm k 8]; exact this
  · rw [if_neg hj] at hv; simp at hv

theorem run_arrayAt_eight (a : Addr) (c : Nat) (w : World) : (Instr.arrayAt 23 (.slice (some a) 8 c)).run Tryd.prog w = .ok (.pointer (some a)) w := by
  simp [Instr.arrayAt, run_underlying Tryd.underlying23]
set_option maxRecDepth 20000 in
theorem whole_any (w : World) (g : Nat) (s : St) (h : StAt w g 130 s) (A : Option Addr) (n c : Nat) (bs : List Int) (hs : Sl w w.heap.size 1 A n (bs.map (.int .u8))) (hb : ByOk bs) (hc : n ≤ c) (hA : ∀ ad, A = some ad → ad.block ≠ g) :
    Calls Tryd.prog 80 #[.pointer (some ⟨g, 0, none⟩), .slice A n c] w fun e w' => e = .returned (.tuple #[]) ∧ StAt w' g 130 (chunksI (n / 8) s bs) ∧ w.grownBy w' (some g) := by
  have hn := hs.le
  have HL := Lib.hid hs.length
  have hbs := hs
  have HST := Lib.hid h; have HSL := Lib.hid hs; have HBY := Lib.hid hb; have HNA := Lib.hid hA
  have hq : 8 * (n / 8) ≤ n := by omega
  obtain ⟨m, hm⟩ : ∃ m, n / 8 = m := ⟨_, rfl⟩
  have hmi : ((n : Int) / 8) = (m : Int) := by omega
  rw [hm] at hq ⊢
  clear h hs hbs hb hA
  go_enter Tryd.func80, Tryd.ntmps80
  go_wp2_with fail
  go_loopw [8] (fun i wr => ∃ k : Nat, k ≤ m ∧ i = .int .i64 k ∧ StAt wr g 130 (chunksI k s bs) ∧ w.grownBy wr (some g)) (fun i _ => m - (intOf i).toNat)
  case atStart => exact ⟨0, by omega, rfl, HST.out, only_refl _ _⟩
  case round =>
    obtain ⟨k, hk, rfl, hst, hg⟩ := hrel
    by_cases hlt : k < m
    · obtain ⟨b, o, rfl, hbb, _⟩ := HSL.out.spot (by omega) (by omega)
      have hng := HNA.out _ rfl
      have hsl : Sl wr wr.heap.size 1 (some ⟨b, o, none⟩) n (bs.map (.int .u8)) := sl_apart HSL.out hg HNA.out
      have hr := sl_range hsl (k := k) (by omega)
      have hok := eight_ok HBY.out (k := k) (by rw [HL.out]; omega)
      have HST2 := Lib.hid hst; have HG := Lib.hid hg; have HR := Lib.hid hr; have HOK := Lib.hid hok
      clear hst hg hsl hr hok
      have hk1 : (k : Int) < m := by omega
      have har := run_arrayAt_eight ⟨b, o + k * 8, none⟩ (c - k * 8)
      have HI8 : Hid ((Tryd.prog.info? 23).map (·.size) = some ((eightI bs k).map (Value.int .u8)).length) := by
        show _ = _
        rw [List.length_map, HOK.out.len]; exact dg_size
      go_wp2_with (refine wpList_load_mid rfl 23 _ rfl b (o + k * 8) rfl ((eightI bs k).map (.int .u8)) _ HR.out Tryd.underlying23 rfl HI8.out ?_)
      refine (num_any (eightI bs k) HOK.out _).mono ?_
      rintro e w2 ⟨rfl, hb2⟩
      have HS2 := Lib.hid (HST2.out.later hb2)
      have HG2 := Lib.hid (only_below HG.out hb2)
      clear hb2
      go_wp2_with fail
      refine (take_any _ _ _ HS2.out _).mono ?_
      rintro e w3 ⟨rfl, hs3, hg3⟩
      have HS3 := Lib.hid hs3; have HG3 := Lib.hid (only_trans HG2.out hg3)
      clear hs3 hg3
      go_wp2_with fail
      go_roundw
      case rel => exact ⟨k + 1, by omega, by go_num, by rw [chunks_snoc]; exact HS3.out, HG3.out⟩
      case measure => simp [intOf]; omega
    · obtain rfl : k = m := by omega
      have HST2 := Lib.hid hst; have HG := Lib.hid hg
      clear hst hg
      go_wp2_with fail
      go_end0
      exact ⟨rfl, HST2.out, HG.out⟩
end Go.Proofs.YtakfdlokgddaoaaDoor

/-! Digests: the bytes' end. -/
namespace Go.Proofs.YtakfdlokgddaoaaDoor
open Go.RowKit

def lastI (bs : List Int) : List Int := bs.drop (8 * (bs.length / 8)) ++ 1 :: List.replicate (7 - bs.length % 8) 0
def endI (s : St) (bs : List Int) : St := takeI (takeI s (numG (lastI bs))) bs.length
def bytesI (s : St) (bs : List Int) : St := endI (chunksI (bs.length / 8) s bs) bs
theorem last_ok {bs : List Int} (h : ByOk bs) : DgOk (lastI bs) := by
  refine ⟨by simp [lastI]; omega, fun b hb => ?_⟩
  simp only [lastI, List.mem_append, List.mem_cons, List.mem_replicate] at hb
  rcases hb with hb | rfl | ⟨_, rfl⟩
  · exact h.drop _ b hb
  · omega
  · omega
theorem last_list (bs : List Int) (n m : Nat) (hn : bs.length = n) (hm : n / 8 = m) :
    (splice ((List.replicate 8 0).map (Value.int .u8)) 0 ((bs.drop (8 * m)).map (Value.int .u8))).set (n - 8 * m) (.int .u8 1) = (lastI bs).map (Value.int .u8) := by
  subst hn; subst hm
  have hl : (bs.drop (8 * (bs.length / 8))).length = bs.length - 8 * (bs.length / 8) := by simp
  unfold splice lastI
  simp only [List.take_zero, List.nil_append, Nat.zero_add, List.length_map, hl, List.map_append, List.map_cons, List.map_replicate, List.drop_replicate]
  rw [List.set_append, if_neg (by simp), List.length_map, hl, Nat.sub_self]
  have e : 8 - (bs.length - 8 * (bs.length / 8)) = (7 - bs.length % 8) + 1 := by omega
  rw [e, List.replicate_succ, List.set_cons_zero]

set_option maxRecDepth 20000 in
set_option maxHeartbeats 400000 in
theorem end_any (w : World) (g : Nat) (s : St) (h : StAt w g 130 s) (A : Option Addr) (n c : Nat) (bs : List Int) (hs : Sl w w.heap.size 1 A n (bs.map (.int .u8))) (hb : ByOk bs) (hc : n ≤ c) :
    Calls Tryd.prog 81 #[.pointer (some ⟨g, 0, none⟩), .slice A n c] w fun e w' => e = .returned (.tuple #[]) ∧ StAt w' g 130 (endI s bs) ∧ w.grownBy w' (some g) := by
  have hn := hs.le
  have hlen := hs.length
  obtain ⟨m, hm⟩ : ∃ m, n / 8 = m := ⟨_, rfl⟩
  have hmi : ((n : Int) / 8) = (m : Int) := by omega
  have hll := Lib.hid (last_list bs n m hlen hm)
  have hgl : g < w.heap.size := Bk.lt h
  obtain ⟨w1, hw1⟩ : ∃ w1, w.alloc (.cells (dgA (List.replicate 8 0)) 23) = w1 := ⟨_, rfl⟩
  have hz : DgAt w1 w.heap.size 23 (List.replicate 8 0) := hw1 ▸ dg_new w 23 (List.replicate 8 0)
  have hb1 : Below w.heap.size w w1 := hw1 ▸ below_new w (.cells (dgA (List.replicate 8 0)) 23)
  have HZ := Lib.hid hz; have HB1 := Lib.hid hb1; have HW := Lib.hid hw1; have HS := Lib.hid h; have HSL := Lib.hid hs; have HY := Lib.hid hb; have HL := Lib.hid hlen
  have hmn : m * 8 ≤ n := by omega
  have h0m : (0 : Int) ≤ (m : Int) * 8 := by omega
  have h1m : (m : Int) * 8 ≤ n := by omega
  have w1m : IntKind.i64.wrap (m : Int) = m := IntWalk.i64_in _ (by omega)
  have w2m : IntKind.i64.wrap ((m : Int) * 8) = (m : Int) * 8 := IntWalk.i64_in _ (by omega)
  have w3m : ((m : Int) * 8).toNat = m * 8 := by omega
  have W1 := Lib.hid w1m; have W2 := Lib.hid w2m; have W3 := Lib.hid w3m
  clear w1m w2m w3m
  have hm2 : n < m * 8 + 8 := by omega
  have hsrc : ∀ ad, A = some ad → ∀ (j : Nat) (v : Value), ((bs.drop (8 * m)).map (Value.int .u8))[j]? = some v → w1.cell? ((ad.add (m * 8)).add j) = some v := by
    intro ad e j v hv
    have hj : 8 * m + j < n := by
      have := (List.getElem?_eq_some_iff.1 hv).1
      simp [hlen] at this; omega
    obtain ⟨ad', e', hbl, hcc⟩ := (hs.below hb1).mem (by omega)
    rw [e] at e'; injection e' with e'; subst e'
    rw [List.getElem?_map, List.getElem?_drop] at hv
    rw [add_add', Nat.mul_comm m 8]
    exact hcc _ _ (by rw [List.getElem?_map]; exact hv)
  have HSRC := Lib.hid hsrc
  have hAn : A = none → n = 0 := by
    rintro rfl
    rcases Nat.eq_zero_or_pos n with h0 | h0
    · exact h0
    · obtain ⟨_, e, _⟩ := hs.mem h0; cases e
  have HAN := Lib.hid hAn
  clear h hs hb hlen hz hb1 hw1 hsrc hAn
  go_enter Tryd.func81, Tryd.ntmps81
  go_upto_region 1 with fail
  rw [zero8, HW.out]
  have w1m := W1.out; have w2m := W2.out; have w3m := W3.out
  go_still_tail 7, (by kernel_rfl)
  clear w1m w2m w3m
  obtain ⟨A', hA'⟩ : ∃ A', (if c = m * 8 then A else Option.map (fun x => x.add (m * 8)) A) = A' := ⟨_, rfl⟩
  rw [hA']
  change wpList _ _ _ _ _ w1.drew
  have hcl : ((bs.drop (8 * m)).map (Value.int .u8)).length = n - m * 8 := by simp [HL.out]; omega
  refine wpList_copy_splice rfl (.tmp 6) (.tmp 12) 29 29 rfl 5 Tryd.underlying29 (by kernel_rfl) (some ⟨w.heap.size, 0, none⟩) A' 8 8 (n - m * 8) (c - m * 8) rfl rfl w.heap.size 0
    ((List.replicate 8 0).map (.int .u8)) 23 HZ.out ((bs.drop (8 * m)).map (.int .u8)) (by rw [hcl]; exact (Nat.min_eq_left (by omega)).symm) (fun hp => ?_) (by rw [hcl]; simp; omega) (ints_one _ _) w.heap.size w (HB1.out.trans (below_draws w1 _ 1)) (Nat.le_refl _) ?_
  · refine ⟨rfl, ?_⟩
    rw [hcl] at hp
    have hcm : c ≠ m * 8 := by omega
    rw [if_neg hcm] at hA'
    cases hA : A with
    | none => have := HAN.out hA; omega
    | some ad =>
      rw [hA] at hA'
      exact ⟨_, hA'.symm, HSRC.out ad hA⟩
  intro w2 hg2 hb2
  rw [hcl]
  have hlt2 : g < w2.heap.size := Nat.lt_of_lt_of_le hgl hb2.size
  have hlD : w.heap.size < w2.heap.size := by
    rcases Nat.lt_or_ge w.heap.size w2.heap.size with h | h
    · exact h
    · have := hg2.out; rw [Array.getElem?_eq_none h] at this; cases this
  have hD : Bk w2 w.heap.size 23 (splice ((List.replicate 8 0).map (Value.int .u8)) 0 ((bs.drop (8 * m)).map (Value.int .u8))) := hg2.out
  have hDs := hD.set_ (n - 8 * m) (.int .u8 1)
  rw [hll.out] at hDs
  have hns : (splice ((List.replicate 8 0).map (Value.int .u8)) 0 ((bs.drop (8 * m)).map (Value.int .u8))).length = 8 := by
    unfold splice; simp [HL.out]; omega
  have hcell : (w2.cell? ⟨w.heap.size, n - m * 8, none⟩).isSome = true := by
    rw [hD.cell, List.getElem?_eq_getElem (by rw [hns]; omega)]; rfl
  obtain ⟨v0, hv0⟩ := Option.isSome_iff_exists.1 hcell
  have hfr := hD.frozen (n - m * 8)
  rw [Nat.mul_comm 8 m] at hDs
  have HD := Lib.hid hDs; have HB2 := Lib.hid hb2
  have h8 : ((n - m * 8 : Nat) : Int) < 8 := by omega
  have h08 : (0 : Int) ≤ ((n - m * 8 : Nat) : Int) := by omega
  obtain ⟨r, hr⟩ : ∃ r, n - m * 8 = r := ⟨_, rfl⟩
  rw [hr] at HD h8 h08 hv0 hfr ⊢
  clear hD hDs hb2 hg2 hcell hns hA' hcl hr
  have HDH := Lib.hid (DgAt.heap HD.out)
  have HIL := dg_info (lastI bs) (last_ok HY.out)
  go_wp2_with (refine wpList_load_row rfl 23 _ rfl w.heap.size rfl 23 (dgA (lastI bs)) (0, 0) _ HDH.out Tryd.underlying23 rfl HIL.out ?_)
  refine (num_any _ (last_ok HY.out) _).mono ?_
  rintro e w3 ⟨rfl, hb3⟩
  have hbb : Below w.heap.size w w3 := (HB2.out.setCell (Nat.le_refl _) _).trans (hb3.mono (by simpa using Nat.le_of_lt hlD))
  have HS3 := Lib.hid (HS.out.later hbb); have HG3 := Lib.hid (only_below (only_refl w g) hbb)
  clear hb3 hbb HD HDH
  go_wp2_with fail
  refine (take_any _ _ _ HS3.out _).mono ?_
  rintro e w4 ⟨rfl, hs4, hg4⟩
  have HS4 := Lib.hid hs4; have HG4 := Lib.hid (only_trans HG3.out hg4)
  clear hs4 hg4
  go_wp2_with fail
  refine (take_any _ _ _ HS4.out _).mono ?_
  rintro e w5 ⟨rfl, hs5, hg5⟩
  have HS5 := Lib.hid hs5; have HG5 := Lib.hid (only_trans HG4.out hg5)
  clear hs5 hg5
  go_wp2_with fail
  go_end0
  exact ⟨rfl, by rw [endI, HL.out]; exact HS5.out, HG5.out⟩

theorem bytes_any (w : World) (g : Nat) (s : St) (h : StAt w g 130 s) (A : Option Addr) (n c : Nat) (bs : List Int) (hs : Sl w w.heap.size 1 A n (bs.map (.int .u8))) (hb : ByOk bs) (hc : n ≤ c) (hA : ∀ ad, A = some ad → ad.block ≠ g) :
    Calls Tryd.prog 75 #[.pointer (some ⟨g, 0, none⟩), .slice A n c] w fun e w' => e = .returned (.tuple #[]) ∧ StAt w' g 130 (bytesI s bs) ∧ w.grownBy w' (some g) := by
  have HS := Lib.hid h; have HL := Lib.hid hs; have HY := Lib.hid hb; have HA := Lib.hid hA; have HN := Lib.hid hs.length
  clear h hs hb hA
  go_enter Tryd.func75, Tryd.ntmps75
  go_wp2_with fail
  refine (whole_any _ _ _ HS.out _ _ _ _ HL.out HY.out hc HA.out).mono ?_
  rintro e w2 ⟨rfl, hs2, hg2⟩
  have HS2 := Lib.hid hs2; have HG2 := Lib.hid hg2
  clear hs2 hg2
  go_wp2_with fail
  refine (end_any _ _ _ HS2.out _ _ _ _ (sl_apart HL.out HG2.out HA.out) HY.out hc).mono ?_
  rintro e w3 ⟨rfl, hs3, hg3⟩
  have HS3 := Lib.hid hs3; have HG3 := Lib.hid (only_trans HG2.out hg3)
  clear hs3 hg3
  go_wp2_with fail
  go_end0
  exact ⟨rfl, by rw [bytesI, HN.out]; exact HS3.out, HG3.out⟩
end Go.Proofs.YtakfdlokgddaoaaDoor

/-! Digests: a digest with a word. -/
namespace Go.Proofs.YtakfdlokgddaoaaDoor
open Go.RowKit

def wordI (d : List Int) (text : List Int) : List Int := outI (bytesI (takeI (beginI 4) (numG d)) text)
theorem wordI_ok (d text : List Int) : DgOk (wordI d text) := outI_ok _

set_option maxRecDepth 20000 in
theorem word_any (w : World) (a : List Int) (ha : DgOk a) (s : ByteArray) (hs : s.size ≤ 9223372036854775807) :
    Calls Tryd.prog 50 #[.agg (dgA a), .string s] w fun e w' => e = .returned (.agg (dgA (wordI a (bytesOf s)))) ∧ Below w.heap.size w w' := by
  obtain ⟨w1, hw1⟩ : ∃ w1, (w.alloc (.cells (dgA a) 23)).alloc (.cells (dgA (List.replicate 8 0)) 23) = w1 := ⟨_, rfl⟩
  have ka : DgAt w1 w.heap.size 23 a := hw1 ▸ Bk.alloc (dg_new w _ a) _
  have kz : DgAt w1 (w.heap.size + 1) 23 (List.replicate 8 0) := hw1 ▸ Bk.at_ _ _ _ (by simp) (dgA_list _)
  have hb1 : Below w.heap.size w w1 := hw1 ▸ (below_new w _).alloc (by simp) _
  have hz1 : w1.heap.size = w.heap.size + 1 + 1 := by rw [← hw1]; simp
  have HKA := Lib.hid ka; have HKZ := Lib.hid kz; have HB1 := Lib.hid hb1; have HW := Lib.hid hw1; have HZ1 := Lib.hid hz1
  have HIA := dg_info _ ha; have HA := Lib.hid ha
  have hcv := fun W => Lib.run_convert_string_bytes (P := Tryd.prog) W 9 29 5 s Tryd.underlying9 Tryd.underlying29 Tryd.underlying5
  have HCV := Lib.hid hcv
  clear ka kz hb1 hw1 hz1 ha hcv
  go_enter Tryd.func50, Tryd.ntmps50
  go_upto_region 1 with fail
  rw [zero8, HW.out]
  go_wp2_with fail
  refine (begin_any _ _).mono ?_
  rintro e w2 ⟨rfl, hb2⟩
  obtain ⟨s0, hs0⟩ : ∃ s0, beginI 4 = s0 := ⟨_, rfl⟩
  rw [hs0]
  have HS0 := Lib.hid hs0; clear hs0
  obtain ⟨w3, hw3⟩ : ∃ w3, w2.alloc (.cells #[.int .u64 s0.a, .int .u64 s0.b, .int .u64 s0.c, .int .u64 s0.d] 130) = w3 := ⟨_, rfl⟩
  obtain ⟨g, hg⟩ : ∃ g, w2.heap.size = g := ⟨_, rfl⟩
  have hs3 : StAt w3 g 130 s0 := hw3 ▸ Bk.at_ _ _ #[.int .u64 s0.a, .int .u64 s0.b, .int .u64 s0.c, .int .u64 s0.d] hg rfl
  have hb3 : Below w1.heap.size w1 w3 := hw3 ▸ hb2.trans ((below_new _ _).mono hb2.size)
  have hg1 : w1.heap.size ≤ g := by rw [← hg]; exact hb2.size
  have HW3 := Lib.hid hw3; have HS3 := Lib.hid hs3; have HB3 := Lib.hid hb3; have HG := Lib.hid hg
  clear hb2 hw3 hs3 hb3 hg
  have HC3 := Lib.hid (HKA.out.later HB3.out).heap
  go_upto_region 2 with fail
  rw [HW3.out, HG.out]
  go_wp2_with (refine wpList_load_row rfl 23 _ rfl w.heap.size rfl 23 (dgA a) (0, 0) _ HC3.out Tryd.underlying23 rfl HIA.out ?_)
  refine (num_any a HA.out _).mono ?_
  rintro e w4 ⟨rfl, hb4⟩
  have HB4 := Lib.hid (HB3.out.trans (hb4.mono HB3.out.size))
  have HS4 := Lib.hid (HS3.out.later hb4)
  clear hb4
  go_wp2_with fail
  refine (take_any _ _ _ HS4.out _).mono ?_
  rintro e w5 ⟨rfl, hs5, hg5⟩
  have HB5 := Lib.hid (below_only HB4.out hg5 HB4.out.size hg1)
  have HS5 := Lib.hid hs5
  clear hs5 hg5
  have hcv := HCV.out w5
  have hgl : g < w5.heap.size := Bk.lt HS5.out
  go_wp2_with fail
  have hcap := grownCap_ge w5 s.size 0 5
  obtain ⟨cp, hcp⟩ : ∃ cp, grownCap w5 s.size 0 5 = cp := ⟨_, rfl⟩
  rw [hcp] at hcap ⊢
  have HS6 := Lib.hid (HS5.out.later (below_bytes w5 5 s))
  have HB6 := Lib.hid (HB5.out.trans ((below_bytes w5 5 s).mono HB5.out.size))
  have HSL := Lib.hid (sl_bytes w5 5 s hs)
  clear hcv hcp
  refine (bytes_any _ _ _ HS6.out _ _ _ _ HSL.out (bytesOf_ok s) hcap (fun ad e => by injection e with e; subst e; exact (Nat.ne_of_lt hgl).symm)).mono ?_
  rintro e w7 ⟨rfl, hs7, hg7⟩
  have HB7 := Lib.hid (below_only HB6.out hg7 HB6.out.size hg1)
  have HS7 := Lib.hid hs7
  clear hs7 hg7
  go_wp2_with fail
  refine (gives_any _ _ _ HS7.out).mono ?_
  rintro e w8 ⟨rfl, hb8⟩
  rw [show outI (bytesI (takeI s0 (numG a)) (bytesOf s)) = wordI a (bytesOf s) by rw [← HS0.out]; rfl]
  have HB8 := Lib.hid (HB7.out.trans (hb8.mono HB7.out.size))
  clear hb8
  have HZ8 := Lib.hid (HKZ.out.later HB8.out).heap
  have HI := dg_info _ (wordI_ok a (bytesOf s))
  have HO := Lib.hid (dgA_one (wordI a (bytesOf s)))
  have HS : Hid ((dgA (List.replicate 8 0)).size = (dgA (wordI a (bytesOf s))).size) := by show _ = _; rw [dgA_size, dgA_size, (wordI_ok a (bytesOf s)).len]; rfl
  obtain ⟨C, hC⟩ : ∃ C, dgA (wordI a (bytesOf s)) = C := ⟨_, rfl⟩
  have HC := Lib.hid hC
  rw [hC] at HI HO HS ⊢
  clear hC
  go_wp2_with (refine wpList_store_row rfl 23 _ _ rfl (w.heap.size + 1) C rfl rfl 23 (dgA (List.replicate 8 0)) HZ8.out HI.out HS.out HO.out ?_)
  refine bodyPost_ret (results_cell_row (p := 4) (ty := 23) rfl _ _ (w.heap.size + 1) 23 C (0, 0) _ rfl (setRow_heap _ _ _ _ _ _ HZ8.out) Tryd.underlying23 rfl HI.out) rfl ?_
  rw [← HC.out]
  exact ⟨rfl, below_setRow (HB1.out.trans (HB8.out.mono (by rw [HZ1.out]; omega))) (by omega) _⟩
end Go.Proofs.YtakfdlokgddaoaaDoor

/-! Digests: the document's bytes. -/
namespace Go.Proofs.YtakfdlokgddaoaaDoor
open Go.RowKit

def padI (bs : List Int) : List Int := bs ++ 1 :: List.replicate (7 - bs.length % 8) 0
theorem pad_len (bs : List Int) : (padI bs).length = 8 * (bs.length / 8 + 1) := by simp [padI]; omega
theorem pad_ok {bs : List Int} (h : ByOk bs) : ByOk (padI bs) := fun b hb => by
  simp only [padI, List.mem_append, List.mem_cons, List.mem_replicate] at hb
  rcases hb with hb | rfl | ⟨_, rfl⟩
  · exact h b hb
  · omega
  · omega
theorem pad_chunks (s : St) (bs : List Int) : takeI (chunksI (bs.length / 8 + 1) s (padI bs)) bs.length = bytesI s bs := by
  rw [chunks_snoc, padI, chunks_append _ _ _ _ (by omega), bytesI, endI]
  congr 2
  rw [List.drop_append_of_le_length (by omega), List.take_of_length_le (by simp; omega)]
  rfl
theorem eight_get {l : List Int} {q k : Nat} {x : Int} (hk : k < 8) (hx : l[8 * q + k]? = some x) : (eightI l q)[k]? = some x := by
  rw [eightI, List.getElem?_take, if_pos hk, List.getElem?_drop]; exact hx

def lenV : Value → Nat
  | .slice _ n _ => n
  | _ => 0
theorem StAt.below {w w' : World} {g B : Nat} {t : TypeId} {s : St} (h : StAt w g t s) (hb : Below B w w') (hg : g < B) : StAt w' g t s := Bk.below h hb hg
section
variable {w wr wr' : World} {V : Value} {L : Nat} {all : List Int} {s : St}
end

end Go.Proofs.YtakfdlokgddaoaaDoor
