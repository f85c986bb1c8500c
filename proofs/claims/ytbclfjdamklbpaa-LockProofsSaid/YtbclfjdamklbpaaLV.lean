/- How a lock is read: the walk. -/
import Derived.Test.YtbclfjdamklbpaaLU
namespace Go.Proofs.Ytbclfjdamklbpaa
set_option linter.unusedSimpArgs false
set_option linter.unusedVariables false
open Go.RowKit Go.Maps

def lk0 : LkT := ⟨0, zeroD, [], 0, 0, 0⟩
def decE (e : Int) (L : LkT) : LkT × Int := if e = 0 then (if checkL L.k L.s L.c L.u L.ks.length = 0 then (L, 0) else (lk0, checkL L.k L.s L.c L.u L.ks.length)) else (lk0, e)
def decT (k : Int) (h : List Int) (ks : List (List Int)) (s : Rd × Int) : LkT × Int :=
  decE (srcEnd (srcNum (srcNum (srcNum s 7).1 1125899906842624).1 1099511627776).1) ⟨k, h, ks, (srcNum s 7).2, (srcNum (srcNum s 7).1 1125899906842624).2, (srcNum (srcNum (srcNum s 7).1 1125899906842624).1 1099511627776).2⟩
def decK (k : Int) (h : List Int) (s : Rd × Int) : LkT × Int := decT k h (keysN (srcNum s 8).1 (srcNum s 8).2.toNat).2 (keysN (srcNum s 8).1 (srcNum s 8).2.toNat).1
def decL (bs : List Int) : LkT × Int := decK (srcNum (⟨bs, 0⟩, 0) 1).2 (srcDg (srcNum (⟨bs, 0⟩, 0) 1).1).2 (srcDg (srcNum (⟨bs, 0⟩, 0) 1).1).1
def RetDl (o : LkT × Int) (w : World) (e : Ending) (w' : World) : Prop :=
  ∃ (P : Option Addr) (c : Nat), e = .returned (.tuple #[.agg (lkC o.1 (.slice P o.1.ks.length c)).toArray, .int .i64 o.2]) ∧ w'.ownsRow w.heap.size 23 8 (.slice P o.1.ks.length c) o.1.ks.length (cellsD o.1.ks) ∧ DsOk o.1.ks ∧ DgOk o.1.h ∧ Below w.heap.size w w'
theorem dec_ret {w : World} {g : Nat} {cs : List Value} {n : Int} (hl : cs.length = 13) (h : Bk w g 26 cs) (tmps : Array Value) (h2 : tmps.getD 2 undef = .pointer (some ⟨g, 0, none⟩)) (h3 : tmps.getD 3 undef = .int .i64 n) :
    (results Try.f28 tmps).run Try.prog w = .ok (.tuple #[.agg cs.toArray, .int .i64 n]) w := by
  have r1 : w.rangeAt g 0 cs := Bk.range (pre := []) (post := []) (by simpa using h) rfl
  have l1 := run_loadVar_mid (P := Try.prog) w g 0 26 cs _ r1 Try.underlying26 rfl (by rw [hl]; exact lk_size)
  rw [Array.getD_eq_getD_getElem?] at h2 h3
  simp [results, Try.results28, h2, h3, asAddr, l1]
theorem build_src (g : Nat) (w : World) : (Instr.build 110 #[(0, .pointer (some ⟨g, 0, none⟩))]).run Try.prog w = .ok (.agg #[.pointer (some ⟨g, 0, none⟩), .int .i64 0]) w := by kernel_rfl
theorem build_dlk (k : Int) (h : List Int) (hh : DgOk h) (w : World) : (Instr.build 26 #[(0, .int .i64 k), (1, .agg (dl h).toArray)]).run Try.prog w = .ok (.agg (lkC ⟨k, h, [], 0, 0, 0⟩ (.slice none 0 0)).toArray) w := by
  obtain ⟨x0, x1, x2, x3, x4, x5, x6, x7, rfl⟩ := list8 h hh.len
  kernel_rfl
theorem srcNum_rng {s : Rd × Int} {most : Int} (hs : ByOk s.1.rest) (hm : 0 ≤ most) : 0 ≤ (srcNum s most).2 ∧ (srcNum s most).2 ≤ most := by
  unfold srcNum
  split
  · exact lnum_rng hs hm
  · exact ⟨Int.le_refl _, hm⟩
theorem keysN_ok {s : Rd × Int} (hs : ∀ k, ByOk (keysN s k).1.1.rest) : ∀ n, DsOk (keysN s n).2
  | 0 => fun d hd => by simp [keysN] at hd
  | n + 1 => fun d hd => by
    rw [keysN] at hd
    split at hd
    · rcases List.mem_append.1 hd with hd | hd
      · exact keysN_ok hs n d hd
      · rw [List.mem_singleton] at hd; subst hd; exact srcDg_ok (hs n)
    · exact keysN_ok hs n d hd
theorem keysN_len {s : Rd × Int} : ∀ n, (keysN s n).2.length ≤ n
  | 0 => by simp [keysN]
  | n + 1 => by
    have := keysN_len (s := s) n
    rw [keysN]
    split
    · simp; omega
    · omega
set_option maxRecDepth 20000 in
set_option maxHeartbeats 8000000 in
theorem ldec_any (w : World) (A : Option Addr) (n c : Nat) (bs : List Int) (ho : ByOk bs) (hs : Sl w w.heap.size 1 A n (bs.map (.int .u8))) (hn : n ≤ 1073741824) :
    Calls Try.prog 28 #[.slice A n c] w (RetDl (decL bs) w) := by
  obtain ⟨z, hz⟩ : ∃ z, w.heap.size = z := ⟨_, rfl⟩
  obtain ⟨w1, hw1⟩ : ∃ w1, w.alloc (.cells #[.int .i64 0, .int .u8 0, .int .u8 0, .int .u8 0, .int .u8 0, .int .u8 0, .int .u8 0, .int .u8 0, .int .u8 0, .slice none 0 0, .int .i64 0, .int .i64 0, .int .i64 0] 26) = w1 := ⟨_, rfl⟩
  have hb1 : Below w.heap.size w w1 := hw1 ▸ below_new w _
  have kz : Bk w1 z 26 zLk' := hw1 ▸ Bk.at_ w _ _ hz rfl
  have HW := Lib.hid hw1; have HB1 := Lib.hid hb1; have HZ1 := Lib.hid kz; have HZ := Lib.hid hz
  have HNR := Lib.hid (newReader_any w1 A n c bs ho (hs.later hb1) hn)
  have HBO := Lib.hid ho
  obtain ⟨D, hD⟩ : ∃ D, decL bs = D := ⟨_, rfl⟩
  have HDL := Lib.hid hD
  rw [hD]
  clear hw1 hb1 kz hz hs ho hD
  go_enter Try.func28, Try.ntmps28
  go_upto_region 1 with fail
  rw [HW.out, HZ.out]
  go_wp2_with fail
  refine HNR.out.mono ?_
  rintro e w2 ⟨⟨g, rfl, hgz, hr⟩, hbn⟩
  have HZ2 := Lib.hid (HZ1.out.later hbn); have HB2 := Lib.hid (below_then HB1.out hbn); have HR2 := Lib.hid hr
  have HGZ : Hid (z < g) := by have := HZ1.out.lt; show z < g; omega
  clear hgz hr hbn HNR HZ1 HB1
  have hbsr := build_src g
  go_wp2_with (first
    | ((with_reducible refine wpList_build rfl 110 _ rfl #[(0, .pointer (some ⟨g, 0, none⟩))] ?_ _ (hbsr _) ?_); focus (simp [Act.eval, Act.put]; done))
    | (with_reducible refine stop_store 110 _ _ rfl ?_))
  clear hbsr
  refine StopD.go ?_
  obtain ⟨gs, hgs⟩ : ∃ q, w2.heap.size = q := ⟨_, rfl⟩
  obtain ⟨wq, hwq⟩ : ∃ w', w2.alloc (.cells #[.pointer none, .int .i64 0] 110) = w' := ⟨_, rfl⟩
  have hbn : Below w2.heap.size w2 wq := hwq ▸ below_new w2 _
  have kt : Bk wq gs 110 ([] ++ ([.pointer none, .int .i64 0] ++ [])) := by rw [← hwq]; exact Bk.at_ w2 _ _ hgs rfl
  rw [hgs, hwq]
  refine wpList_store_part rfl 110 _ _ rfl gs 0 (.agg #[.pointer (some ⟨g, 0, none⟩), .int .i64 0]) [.pointer (some ⟨g, 0, none⟩), .int .i64 0] rfl rfl rfl 110 [] _ [] kt rfl rfl (by kernel_rfl) (by intro x hx; simp at hx; rcases hx with rfl | rfl <;> rfl) ?_
  intro w3 hp
  have hbn : Below w2.heap.size w2 w3 := hbn.grown hp.only hbn.size (fun q' hq' => by injection hq' with hq'; omega)
  have HS3 : Hid (SrcAt w3 gs g (⟨bs, 0⟩, 0)) := ⟨HR2.out.later hbn, by have := hp.bk; simpa using this, by have := HR2.out; obtain ⟨_, _, _, _, _, hb, _⟩ := this; have := hb.lt; omega, fun _ => rfl⟩
  have HZ3 := Lib.hid (HZ2.out.later hbn); have HB3 := Lib.hid (below_then HB2.out hbn)
  clear hbn hp kt hgs hwq HR2 HZ2 HB2
  obtain ⟨s0, hs0⟩ : ∃ s : Rd × Int, (⟨bs, 0⟩, 0) = s := ⟨_, rfl⟩
  have HS0 := Lib.hid hs0
  rw [hs0] at HS3
  clear hs0
  go_wp2_with fail
  obtain ⟨⟨s1, v1⟩, hR⟩ : ∃ R, srcNum s0 1 = R := ⟨_, rfl⟩
  have HR1 := Lib.hid hR
  have hnn := srcNum_any w3 gs g s0 HS3.out 1 (by decide) (by decide)
  rw [hR] at hnn
  have HN := Lib.hid hnn
  clear hnn hR
  refine HN.out.mono ?_
  rintro e w4 ⟨rfl, hs, ht⟩
  have HGG : Hid (z < g ∧ g < gs ∧ w.heap.size ≤ z) := ⟨HGZ.out, HS3.out.lt, Nat.le_of_eq HZ.out⟩
  have hgg := HGG.out
  have HS4 := Lib.hid hs; have HZ4 := Lib.hid (ht.bk HZ3.out (by omega) (by omega)); have HB4 := Lib.hid (ht.below HB3.out HB3.out.size (by omega) (by omega))
  clear hs ht HN HS3 HZ3 HB3 hgg
  go_wp2_with fail
  obtain ⟨⟨s2, hd⟩, hR⟩ : ∃ R, srcDg s1 = R := ⟨_, rfl⟩
  have HR2 := Lib.hid hR
  have hnn := srcDg_any w4 gs g s1 HS4.out
  have hdo := srcDg_ok HS4.out.rd.ok
  rw [hR] at hnn hdo
  have HN := Lib.hid hnn; have HHO : Hid (DgOk hd) := hdo
  clear hnn hR hdo
  refine HN.out.mono ?_
  rintro e w5 ⟨rfl, hs, ht⟩
  have hgg := HGG.out
  have HS5 := Lib.hid hs; have HZ5 := Lib.hid (ht.bk HZ4.out (by omega) (by omega)); have HB5 := Lib.hid (ht.below HB4.out HB4.out.size (by omega) (by omega))
  clear hs ht HN HS4 HZ4 HB4 hgg
  have hbl := build_dlk v1 hd HHO.out
  go_wp2_with (first
    | ((with_reducible refine wpList_build rfl 26 _ rfl #[(0, .int .i64 v1), (1, .agg (dl hd).toArray)] ?_ _ (hbl _) ?_); focus (simp [Act.eval, Act.put]; done))
    | (with_reducible refine stop_store 26 _ _ rfl ?_))
  clear hbl
  refine StopD.go ?_
  obtain ⟨gl, hgl⟩ : ∃ q, w5.heap.size = q := ⟨_, rfl⟩
  obtain ⟨wq, hwq⟩ : ∃ w', w5.alloc (.cells #[.int .i64 0, .int .u8 0, .int .u8 0, .int .u8 0, .int .u8 0, .int .u8 0, .int .u8 0, .int .u8 0, .int .u8 0, .slice none 0 0, .int .i64 0, .int .i64 0, .int .i64 0] 26) = w' := ⟨_, rfl⟩
  have hbn : Below w5.heap.size w5 wq := hwq ▸ below_new w5 _
  have kt : Bk wq gl 26 ([] ++ (zLk' ++ [])) := by rw [← hwq]; exact Bk.at_ w5 _ _ hgl rfl
  rw [hgl, hwq]
  refine wpList_store_part rfl 26 _ _ rfl gl 0 (.agg (lkC ⟨v1, hd, [], 0, 0, 0⟩ (.slice none 0 0)).toArray) (lkC ⟨v1, hd, [], 0, 0, 0⟩ (.slice none 0 0)) rfl rfl rfl 26 [] zLk' [] kt rfl (Eq.symm (show (lkC ⟨v1, hd, [], 0, 0, 0⟩ (.slice none 0 0)).length = 13 from (lkC_len (L := ⟨v1, hd, [], 0, 0, 0⟩) HHO.out _))) (lk_sz (L := ⟨v1, hd, [], 0, 0, 0⟩) HHO.out _) (lk_one _ _ _ _) ?_
  intro w6 hp
  have hbn : Below w5.heap.size w5 w6 := hbn.grown hp.only hbn.size (fun q' hq' => by injection hq' with hq'; omega)
  have HL6 : Hid (Bk w6 gl 26 (lkC ⟨v1, hd, [], 0, 0, 0⟩ (.slice none 0 0))) := by show Bk _ _ _ _; have := hp.bk; simpa using this
  have HSZgl := Lib.hid hgl
  clear hp kt hgl hwq
  have HD6 : Hid (DcS w w6 z gs g gl s2 ⟨v1, hd, [], 0, 0, 0⟩ (.slice none 0 0) []) := by
    have hgg := HGG.out
    have hgl : gs < gl := by have := HS5.out.sb.lt; rw [← HSZgl.out]; exact this
    exact ⟨HS5.out.later hbn, HL6.out, HZ5.out.later hbn, World.ownsRow_nil _ _ _ _, fun d hd => by simp at hd, HHO.out, below_then HB5.out hbn, hgg.2.2, hgg.1, hgl⟩
  clear hbn HS5 HZ5 HB5 HL6
  clear HSZgl
  go_wp2_with fail
  obtain ⟨⟨s3, v3⟩, hR⟩ : ∃ R, srcNum s2 8 = R := ⟨_, rfl⟩
  have HR3 := Lib.hid hR
  have hnn := srcNum_any w6 gs g s2 HD6.out.sr 8 (by decide) (by decide)
  have hrg := srcNum_rng (s := s2) (most := 8) HD6.out.sr.rd.ok (by decide)
  rw [hR] at hnn hrg
  have HN := Lib.hid hnn
  have HRG : Hid (0 ≤ v3 ∧ v3 ≤ 8) := hrg
  clear hnn hR hrg
  refine HN.out.mono ?_
  rintro e w7 ⟨rfl, hs, ht⟩
  have HD7 := Lib.hid (HD6.out.turn ht hs)
  clear hs ht HN HD6
  obtain ⟨m, hm⟩ : ∃ m : Nat, v3 = m := ⟨v3.toNat, by have := HRG.out; omega⟩
  subst hm
  have HM8 : Hid (m ≤ 8) := by have := HRG.out; show m ≤ 8; omega
  clear HRG
  go_wp2_with fail
  have hcf : ∀ cap w, (callFunc 66 cap).run Try.prog w = .ok (.enter 66 cap) w := by intro cap w; kernel_rfl
  have hea := each_any 66 #[.pointer (some ⟨gl, 0, none⟩), .pointer (some ⟨gs, 0, none⟩)] (hcf _) w7 gs g m (by have := HM8.out; omega) (fun k => (keysN s3 k).1)
    (fun k w' => k ≤ m ∧ ∃ (P : Option Addr) (c : Nat), DcS w w' z gs g gl (keysN s3 k).1 ⟨v1, hd, [], 0, 0, 0⟩ (.slice P (keysN s3 k).2.length c) (keysN s3 k).2)
    ⟨Nat.zero_le _, none, 0, HD7.out⟩ (fun k w' h => by obtain ⟨_, P, c, h⟩ := h; exact h.sr) (fun k w' hk he h => by
      obtain ⟨_, P, c, h⟩ := h
      refine (dkey_any w w' z gs g gl (keysN s3 k).1 ⟨v1, hd, [], 0, 0, 0⟩ P c (keysN s3 k).2 h (by have := keysN_len (s := s3) k; have := HM8.out; omega)).mono ?_
      rintro e w'' ⟨rfl, P', c', h'⟩
      have hk1 : keysN s3 (k + 1) = ((srcDg (keysN s3 k).1).1, (keysN s3 k).2 ++ [(srcDg (keysN s3 k).1).2]) := by rw [keysN, if_pos he]
      exact ⟨rfl, by omega, P', c', by rw [hk1]; exact h'⟩)
  have HEA := Lib.hid hea
  clear hea hcf
  refine HEA.out.mono ?_
  rintro e w8 ⟨rfl, kk, hkm, ⟨_, P, pc, h8⟩, hst⟩
  have hkk : keysN s3 m = keysN s3 kk := by
    rcases hst with rfl | hst
    · rfl
    · have := keysN_stop hst (m - kk)
      rwa [Nat.add_sub_cancel' hkm] at this
  rw [← hkk] at h8
  obtain ⟨⟨s4, ks⟩, hR⟩ : ∃ R, keysN s3 m = R := ⟨_, rfl⟩
  have HR4 := Lib.hid hR
  have HKL : Hid (ks.length ≤ 8) := by have := keysN_len (s := s3) m; rw [hR] at this; exact Nat.le_trans this HM8.out
  rw [hR] at h8
  have HD8 : Hid (DcS w w8 z gs g gl s4 ⟨v1, hd, [], 0, 0, 0⟩ (.slice P ks.length pc) ks) := h8
  clear hkm hst hkk hR h8 HEA HD7
  go_wp2_with fail
  obtain ⟨⟨s5, v5⟩, hR⟩ : ∃ R, srcNum s4 7 = R := ⟨_, rfl⟩
  have HR5 := Lib.hid hR
  have hn := srcNum_any w8 gs g s4 HD8.out.sr 7 (by decide) (by decide)
  rw [hR] at hn
  have HN := Lib.hid hn
  clear hn hR
  refine HN.out.mono ?_
  rintro e wy ⟨rfl, hs, ht⟩
  have HDy := Lib.hid (HD8.out.turn ht hs)
  clear hs ht HN HD8
  go_wp2_with (with_reducible refine stop_store 3 _ _ rfl ?_)
  refine StopD.go ?_
  refine wpList_store_part rfl 3 _ _ rfl gl 10 (.int .i64 v5) [.int .i64 v5] rfl rfl rfl 26 (.int .i64 v1 :: dl hd ++ [.slice P ks.length pc]) [.int .i64 0] ([.int .i64 0, .int .i64 0]) (by have := HDy.out.lk; simpa [lkC] using this) (by simp [dl_len, HHO.out.len]) rfl (by kernel_rfl) (by intro x hx; simp at hx; subst hx; rfl) ?_
  intro w9 hp
  have HD9 := Lib.hid (HDy.out.put (L' := ⟨v1, hd, [], v5, 0, 0⟩) (by simpa [lkC] using hp) rfl)
  clear hp HDy
  go_wp2_with fail
  obtain ⟨⟨s6, v6⟩, hR⟩ : ∃ R, srcNum s5 1125899906842624 = R := ⟨_, rfl⟩
  have HR6 := Lib.hid hR
  have hn := srcNum_any w9 gs g s5 HD9.out.sr 1125899906842624 (by decide) (by decide)
  rw [hR] at hn
  have HN := Lib.hid hn
  clear hn hR
  refine HN.out.mono ?_
  rintro e wy ⟨rfl, hs, ht⟩
  have HDy := Lib.hid (HD9.out.turn ht hs)
  clear hs ht HN HD9
  go_wp2_with (with_reducible refine stop_store 3 _ _ rfl ?_)
  refine StopD.go ?_
  refine wpList_store_part rfl 3 _ _ rfl gl 11 (.int .i64 v6) [.int .i64 v6] rfl rfl rfl 26 (.int .i64 v1 :: dl hd ++ [.slice P ks.length pc, .int .i64 v5]) [.int .i64 0] ([.int .i64 0]) (by have := HDy.out.lk; simpa [lkC] using this) (by simp [dl_len, HHO.out.len]) rfl (by kernel_rfl) (by intro x hx; simp at hx; subst hx; rfl) ?_
  intro w10 hp
  have HD10 := Lib.hid (HDy.out.put (L' := ⟨v1, hd, [], v5, v6, 0⟩) (by simpa [lkC] using hp) rfl)
  clear hp HDy
  go_wp2_with fail
  obtain ⟨⟨s7, v7⟩, hR⟩ : ∃ R, srcNum s6 1099511627776 = R := ⟨_, rfl⟩
  have HR7 := Lib.hid hR
  have hn := srcNum_any w10 gs g s6 HD10.out.sr 1099511627776 (by decide) (by decide)
  rw [hR] at hn
  have HN := Lib.hid hn
  clear hn hR
  refine HN.out.mono ?_
  rintro e wy ⟨rfl, hs, ht⟩
  have HDy := Lib.hid (HD10.out.turn ht hs)
  clear hs ht HN HD10
  go_wp2_with (with_reducible refine stop_store 3 _ _ rfl ?_)
  refine StopD.go ?_
  refine wpList_store_part rfl 3 _ _ rfl gl 12 (.int .i64 v7) [.int .i64 v7] rfl rfl rfl 26 (.int .i64 v1 :: dl hd ++ [.slice P ks.length pc, .int .i64 v5, .int .i64 v6]) [.int .i64 0] ([]) (by have := HDy.out.lk; simpa [lkC] using this) (by simp [dl_len, HHO.out.len]) rfl (by kernel_rfl) (by intro x hx; simp at hx; subst hx; rfl) ?_
  intro w11 hp
  have HD11 := Lib.hid (HDy.out.put (L' := ⟨v1, hd, [], v5, v6, v7⟩) (by simpa [lkC] using hp) rfl)
  clear hp HDy
  have HDE0 : Hid (D = decE (srcEnd s7) ⟨v1, hd, ks, v5, v6, v7⟩) := by
    show _ = _
    rw [← HDL.out, decL, HS0.out, HR1.out]
    show decK v1 (srcDg s1).2 (srcDg s1).1 = _
    rw [HR2.out]
    show decK v1 hd s2 = _
    rw [decK, HR3.out]
    show decT v1 hd (keysN s3 ((m : Nat) : Int).toNat).2 (keysN s3 ((m : Nat) : Int).toNat).1 = _
    rw [Int.toNat_natCast, HR4.out]
    show decT v1 hd ks s4 = _
    rw [decT, HR5.out]
    show decE (srcEnd (srcNum (srcNum s5 1125899906842624).1 1099511627776).1) ⟨v1, hd, ks, v5, (srcNum s5 1125899906842624).2, (srcNum (srcNum s5 1125899906842624).1 1099511627776).2⟩ = _
    rw [HR6.out]
    show decE (srcEnd (srcNum s6 1099511627776).1) ⟨v1, hd, ks, v5, v6, (srcNum s6 1099511627776).2⟩ = _
    rw [HR7.out]
  clear HDL HS0 HR1 HR2 HR3 HR4 HR5 HR6 HR7
  go_wp2_with fail
  obtain ⟨x, hx⟩ : ∃ x, srcEnd s7 = x := ⟨_, rfl⟩
  have hnn := srcEnd_any w11 gs g s7 HD11.out.sr
  rw [hx] at hnn HDE0
  have HN := Lib.hid hnn
  clear hnn hx
  refine HN.out.mono ?_
  rintro e w12 ⟨rfl, ht⟩
  have hgg := HGG.out
  have HL12 := Lib.hid (ht.bk HD11.out.lk (by have := HD11.out.gg; omega) (by have := HD11.out.gg; omega)); have HZ12 := Lib.hid (ht.bk HD11.out.rs (by omega) (by omega)); have HB12 := Lib.hid (ht.below HD11.out.hb HD11.out.hb.size (by omega) (by omega))
  have HO12 := Lib.hid (ht.own HD11.out.ro (HD11.out.sr.ne_g HD11.out.ro (by decide) (by decide)).1 (HD11.out.sr.ne_g HD11.out.ro (by decide) (by decide)).2)
  have HKO : Hid (DsOk ks) := HD11.out.ko
  have HGL : Hid (w.heap.size ≤ gl) := by show _ ≤ gl; have := HD11.out.gg; omega
  clear ht HN HD11 hgg
  by_cases hx0 : x = 0
  · subst hx0
    have HDE1 : Hid (D = if checkL v1 v5 v6 v7 ks.length = 0 then (⟨v1, hd, ks, v5, v6, v7⟩, 0) else (lk0, checkL v1 v5 v6 v7 ks.length)) := by show _ = _; rw [HDE0.out, decE, if_pos rfl]
    have HSL : Hid ((Try.prog.info? 26).map (·.size) = some (lkC ⟨v1, hd, [], v5, v6, v7⟩ (.slice P ks.length pc)).length) := lk_sz (L := ⟨v1, hd, [], v5, v6, v7⟩) HHO.out _
    have hck := fun w' => lcheck_any w' ⟨v1, hd, [], v5, v6, v7⟩ HHO.out P ks.length pc
    obtain ⟨y, hy⟩ : ∃ y, checkL v1 v5 v6 v7 ks.length = y := ⟨_, rfl⟩
    rw [show checkL (⟨v1, hd, [], v5, v6, v7⟩ : LkT).k (⟨v1, hd, [], v5, v6, v7⟩ : LkT).s (⟨v1, hd, [], v5, v6, v7⟩ : LkT).c (⟨v1, hd, [], v5, v6, v7⟩ : LkT).u ks.length = y from hy] at hck
    rw [hy] at HDE1
    have HCK := Lib.hid hck
    clear hck hy HDE0
    go_wp2_with (with_reducible refine wpList_load_bk rfl 26 _ rfl gl rfl (lkC ⟨v1, hd, [], v5, v6, v7⟩ (.slice P ks.length pc)) 26 HL12.out _ Try.underlying26 rfl HSL.out ?_)
    refine (HCK.out w12).mono ?_
    rintro e w13 ⟨rfl, hbn⟩
    have HL13 := Lib.hid (HL12.out.later hbn); have HZ13 := Lib.hid (HZ12.out.later hbn); have HB13 := Lib.hid (below_then HB12.out hbn); have HO13 := Lib.hid (own_keep HO12.out hbn)
    clear hbn HL12 HZ12 HB12 HO12
    by_cases hy0 : y = 0
    · subst hy0
      have HDE : Hid (D = (⟨v1, hd, ks, v5, v6, v7⟩, 0)) := by show _ = _; rw [HDE1.out, if_pos rfl]
      clear HDE1
      go_wp2_with (first
        | (with_reducible refine wpList_load_bk rfl 26 _ rfl gl rfl (lkC ⟨v1, hd, [], v5, v6, v7⟩ (.slice P ks.length pc)) 26 HL13.out _ Try.underlying26 rfl HSL.out ?_)
        | (with_reducible refine stop_store 26 _ _ rfl ?_))
      refine StopD.go ?_
      refine wpList_store_part rfl 26 _ _ rfl z 0 (.agg (lkC ⟨v1, hd, [], v5, v6, v7⟩ (.slice P ks.length pc)).toArray) (lkC ⟨v1, hd, [], v5, v6, v7⟩ (.slice P ks.length pc)) rfl rfl rfl 26 [] zLk' [] (by simpa using HZ13.out) rfl (by rw [lkC_len (L := ⟨v1, hd, [], v5, v6, v7⟩) HHO.out]; rfl) HSL.out (lk_one _ _ _ _) ?_
      intro wz hp
      have HRz : Hid (Bk wz z 26 (lkC ⟨v1, hd, [], v5, v6, v7⟩ (.slice P ks.length pc))) := by show Bk _ _ _ _; have := hp.bk; simpa using this
      have HBz := Lib.hid (below_only HB13.out hp.only HB13.out.size (Nat.le_of_eq HZ.out))
      have HOz := Lib.hid (own_base (own_only HO13.out hp.only (own_bk_ne HO13.out HZ13.out (by decide))) HGL.out)
      clear hp
      go_wp2_with fail
      refine bodyPost_ret (dec_ret (lkC_len (L := ⟨v1, hd, [], v5, v6, v7⟩) HHO.out _) HRz.out _ rfl rfl) rfl ?_
      rw [HDE.out]
      exact ⟨P, pc, rfl, HOz.out, HKO.out, HHO.out, HBz.out⟩
    · have HDE : Hid (D = (lk0, y)) := by show _ = _; rw [HDE1.out, if_neg hy0]
      have hyn : (y != 0) = true := by simpa using hy0
      clear HDE1 hy0
      have hzl := z_lk
      go_wp2_with (first
        | ((with_reducible refine wpList_build rfl 26 _ rfl #[] ?_ _ (hzl _) ?_); focus (simp [Act.eval, Act.put]; done))
        | (with_reducible refine stop_store 26 _ _ rfl ?_))
      clear hzl
      refine StopD.go ?_
      refine wpList_store_part rfl 26 _ _ rfl z 0 (.agg zLk'.toArray) zLk' rfl rfl rfl 26 [] zLk' [] (by simpa using HZ13.out) rfl rfl zlk_size zlk_one ?_
      intro wz hp
      have HRz : Hid (Bk wz z 26 zLk') := by show Bk _ _ _ _; have := hp.bk; simpa using this
      have HBz := Lib.hid (below_only HB13.out hp.only HB13.out.size (Nat.le_of_eq HZ.out))
      clear hp
      go_wp2_with fail
      refine bodyPost_ret (dec_ret rfl HRz.out _ rfl rfl) rfl ?_
      rw [HDE.out]
      exact ⟨none, 0, rfl, World.ownsRow_nil _ _ _ _, fun d hd => by simp [lk0] at hd, zero_ok, HBz.out⟩
  · have HDE : Hid (D = (lk0, x)) := by show _ = _; rw [HDE0.out, decE, if_neg hx0]
    have hxn : (x != 0) = true := by simpa using hx0
    clear HDE0 hx0
    have hzl := z_lk
    go_wp2_with (first
      | ((with_reducible refine wpList_build rfl 26 _ rfl #[] ?_ _ (hzl _) ?_); focus (simp [Act.eval, Act.put]; done))
      | (with_reducible refine stop_store 26 _ _ rfl ?_))
    clear hzl
    refine StopD.go ?_
    refine wpList_store_part rfl 26 _ _ rfl z 0 (.agg zLk'.toArray) zLk' rfl rfl rfl 26 [] zLk' [] (by simpa using HZ12.out) rfl rfl zlk_size zlk_one ?_
    intro wz hp
    have HRz : Hid (Bk wz z 26 zLk') := by show Bk _ _ _ _; have := hp.bk; simpa using this
    have HBz := Lib.hid (below_only HB12.out hp.only HB12.out.size (Nat.le_of_eq HZ.out))
    clear hp
    go_wp2_with fail
    refine bodyPost_ret (dec_ret rfl HRz.out _ rfl rfl) rfl ?_
    rw [HDE.out]
    exact ⟨none, 0, rfl, World.ownsRow_nil _ _ _ _, fun d hd => by simp [lk0] at hd, zero_ok, HBz.out⟩
end Go.Proofs.Ytbclfjdamklbpaa
