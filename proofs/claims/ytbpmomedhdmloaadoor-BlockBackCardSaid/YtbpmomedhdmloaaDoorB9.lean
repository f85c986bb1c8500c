/- A block's head and name; the first block; one above another. -/
import Derived.Test.YtbpmomedhdmloaaDoorB8
import Derived.Test.YtbpmomedhdmloaaDoorS3
namespace Go.Proofs.YtbpmomedhdmloaaDoor
set_option linter.unusedSimpArgs false
set_option linter.unusedVariables false
open Go.RowKit Go.Maps

def numN (d : List Int) : Nat := (numG d).toNat
theorem numN_eq {d : List Int} (h : DgOk d) : numG d = ((numN d : Nat) : Int) := by
  have := numG_bound d h.byt
  unfold numN; omega
theorem numN_lt {d : List Int} (h : DgOk d) : numN d < 18446744073709551616 := by
  have := numG_bound d h.byt
  rw [h.len] at this
  have e : (256 : Int) ^ 8 = 18446744073709551616 := by decide
  rw [e] at this
  unfold numN; omega
theorem num_anyb {d : List Int} (h : DgOk d) (w : World) : Calls Tryd.prog 34 #[.agg (dl d).toArray] w fun e w' => e = .returned (.int .u64 ((numN d : Nat) : Int)) ∧ Below w.heap.size w w' := by
  have := num_any d h w
  rw [numN_eq h] at this
  exact this
theorem word_anyb (w : World) (a : List Int) (ha : DgOk a) (s : ByteArray) (hs : s.size ≤ 9223372036854775807) :
    Calls Tryd.prog 31 #[.agg (dl a).toArray, .string s] w fun e w' => e = .returned (.agg (dl (wordI a (bytesOf s))).toArray) ∧ Below w.heap.size w w' := word_any w a ha s hs
def headB (p : List Int) (h : Int) (m : List Int) (N : Nat) : List Int := numB (numN p) ++ numB h.toNat ++ numB (numN m) ++ numB N
theorem headB_len (p : List Int) (h : Int) (m : List Int) (N : Nat) : (headB p h m N).length ≤ 40 := by
  have h1 := numB_le (numN p); have h2 := numB_le h.toNat; have h3 := numB_le (numN m); have h4 := numB_le N
  simp only [headB, List.length_append]; omega
theorem headB_ok {p : List Int} {h : Int} {m : List Int} {N : Nat} (hp : DgOk p) (hm : DgOk m) (hh : h ≤ 1099511627776) (hN : N ≤ 1000) : ByOk (headB p h m N) := by
  have h1 := numB_ok (numN_lt hp); have h2 : ByOk (numB h.toNat) := numB_ok (by omega); have h3 := numB_ok (numN_lt hm); have h4 : ByOk (numB N) := numB_ok (by omega)
  exact byOk_app (byOk_app (byOk_app h1 h2) h3) h4
set_option maxRecDepth 20000 in
set_option maxHeartbeats 4000000 in
theorem head_any (w : World) (p : List Int) (h : Int) (m : List Int) (hp : DgOk p) (hm : DgOk m) (A : Option Addr) (N C : Nat) (h0 : 0 ≤ h) (h1 : h ≤ 1099511627776) (hN : N ≤ 1000) :
    Calls Tryd.prog 33 #[.agg (bkC p h m (.slice A N C)).toArray] w (RetB w.heap.size (headB p h m N) w) := by
  obtain ⟨q, rfl⟩ := Int.eq_ofNat_of_zero_le h0
  obtain ⟨l, hl⟩ : ∃ x, bkC p q m (.slice A N C) = x := ⟨_, rfl⟩
  obtain ⟨X, hX⟩ : ∃ X, l.toArray = X := ⟨_, rfl⟩
  obtain ⟨z, hz⟩ : ∃ z, w.heap.size = z := ⟨_, rfl⟩
  obtain ⟨w1, hw1⟩ : ∃ w1, w.alloc (.cells X 31) = w1 := ⟨_, rfl⟩
  have hb1 : Below w.heap.size w w1 := hw1 ▸ below_new w _
  have kx : Bk w1 z 31 l := hw1 ▸ Bk.at_ w _ X hz (by rw [← hX])
  have HM : Hid (∀ w' g', Bk w' g' 31 l → BkcM w' g' p q m (.slice A N C)) := fun w' g' h' => by rw [← hl] at h'; exact bkc_mem hp hm h'
  have HW := Lib.hid hw1; have HBB1 := Lib.hid hb1; have HZ := Lib.hid hz; have HK1 := Lib.hid kx; have HPO := Lib.hid hp; have HMO := Lib.hid hm
  rw [hl, hX]
  clear hl hX hw1 hb1 kx hz hp hm
  have hu1 : IntKind.u64.wrap (q : Int) = (q : Int) := by rw [IntKind.wrap_u64]; omega
  have hu2 : IntKind.u64.wrap (N : Int) = (N : Int) := by rw [IntKind.wrap_u64]; omega
  have HR0 := Lib.hid (HM.out _ _ HK1.out).r0
  obtain ⟨t1, ht1⟩ : ∃ t, numB (numN p) = t := ⟨_, rfl⟩
  have HT1 := Lib.hid ht1
  have HL1 : Hid (t1.length ≤ 10) := by show _ ≤ 10; rw [← ht1]; exact numB_le _
  clear ht1
  go_enter Tryd.func33, Tryd.ntmps33
  go_upto_region 1 with fail
  rw [HW.out, HZ.out]
  go_wp2_with (with_reducible refine wpList_load_mid rfl 28 _ rfl z 0 rfl (dl p) _ HR0.out Tryd.underlying28 rfl (hdg_size _ HPO.out) ?_)
  refine (num_anyb HPO.out w1).mono ?_
  rintro e w2 ⟨rfl, hbn⟩
  have HK2 := Lib.hid (HK1.out.later hbn); have HB2 := Lib.hid (below_then HBB1.out hbn)
  clear hbn HK1 HBB1 HR0
  go_wp2_with fail
  have hpn := putNum_any w2 none 0 0 [] Sl.nil (numN p) (numN_lt HPO.out) (by omega)
  rw [List.nil_append, HT1.out] at hpn
  refine hpn.mono ?_
  clear hpn
  rintro e w3 ⟨v3, rfl, hown⟩
  obtain ⟨A3, c3, rfl⟩ := hown.form
  have HK3 := Lib.hid (HK2.out.later hown.2); have HB3 := Lib.hid (below_then HB2.out hown.2); have HO3 := Lib.hid hown
  have c8 := (HM.out _ _ HK3.out).c8
  clear hown HK2 HB2
  go_wp2_with fail
  refine (putNum_any w3 A3 t1.length c3 t1 (Sl.of_own HO3.out.1) q (by show q < _; omega) (by have := HL1.out; omega)).mono ?_
  rintro e w4 ⟨v4, rfl, hown⟩
  obtain ⟨t2, ht2⟩ : ∃ t, t1 ++ numB q = t := ⟨_, rfl⟩
  have HT2 := Lib.hid ht2
  have HL2 : Hid (t2.length ≤ 20) := by show _ ≤ 20; rw [← ht2, List.length_append]; have := numB_le q; have := HL1.out; omega
  rw [ht2] at hown
  obtain ⟨A4, c4, rfl⟩ := hown.form
  have HK4 := Lib.hid (HK3.out.later hown.2); have HB4 := Lib.hid (below_then HB3.out hown.2); have HO4 := Lib.hid hown
  have HR9 := Lib.hid (HM.out _ _ HK4.out).r9
  clear hown HK3 HB3 c8 ht2 HO3
  go_wp2_with (with_reducible refine wpList_load_mid rfl 28 _ rfl z 9 rfl (dl m) _ HR9.out Tryd.underlying28 rfl (hdg_size _ HMO.out) ?_)
  refine (num_anyb HMO.out w4).mono ?_
  rintro e w5 ⟨rfl, hbn⟩
  have HK5 := Lib.hid (HK4.out.later hbn); have HB5 := Lib.hid (below_then HB4.out hbn); have HO5 := Lib.hid ((Sl.of_own HO4.out.1).later hbn)
  clear hbn HK4 HB4 HR9 HO4
  go_wp2_with fail
  refine (putNum_any w5 A4 t2.length c4 t2 HO5.out (numN m) (numN_lt HMO.out) (by have := HL2.out; omega)).mono ?_
  rintro e w6 ⟨v6, rfl, hown⟩
  obtain ⟨t3, ht3⟩ : ∃ t, t2 ++ numB (numN m) = t := ⟨_, rfl⟩
  have HT3 := Lib.hid ht3
  have HL3 : Hid (t3.length ≤ 30) := by show _ ≤ 30; rw [← ht3, List.length_append]; have := numB_le (numN m); have := HL2.out; omega
  rw [ht3] at hown
  obtain ⟨A6, c6, rfl⟩ := hown.form
  have HK6 := Lib.hid (HK5.out.later hown.2); have HB6 := Lib.hid (below_then HB5.out hown.2); have HO6 := Lib.hid hown
  have c17 := (HM.out _ _ HK6.out).c17
  clear hown HK5 HB5 ht3 HO5
  go_wp2_with fail
  refine (putNum_any w6 A6 t3.length c6 t3 (Sl.of_own HO6.out.1) N (by show N < _; omega) (by have := HL3.out; omega)).mono ?_
  rintro e w7 ⟨v7, rfl, hown⟩
  obtain ⟨t4, ht4⟩ : ∃ t, t3 ++ numB N = t := ⟨_, rfl⟩
  have HT4 : Hid (t4 = headB p q m N) := by
    show _ = _
    rw [← ht4, ← HT3.out, ← HT2.out, ← HT1.out]; rfl
  rw [ht4] at hown
  have HB7 := Lib.hid (below_then HB6.out hown.2); have HO7 := Lib.hid hown
  clear hown ht4
  go_wp2_with fail
  go_ret
  rw [← HT4.out]
  exact ⟨_, rfl, own_base HO7.out.1 HB6.out.size, HB7.out⟩
end Go.Proofs.YtbpmomedhdmloaaDoor
