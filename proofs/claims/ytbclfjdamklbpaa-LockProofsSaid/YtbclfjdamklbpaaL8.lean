/- Whether a lock goes back; the example of locks. -/
import Derived.Test.YtbclfjdamklbpaaL7
namespace Go.Proofs.Ytbclfjdamklbpaa
set_option linter.unusedSimpArgs false
set_option linter.unusedVariables false
open Go.RowKit Go.Maps

def backE (L : LkT) (N : Nat) (now : Int) : Int := if checkL L.k L.s L.c L.u N = 0 then (if now ≤ L.u then 20 else 0) else checkL L.k L.s L.c L.u N
set_option maxRecDepth 20000 in
set_option maxHeartbeats 2000000 in
theorem back_any (w : World) (L : LkT) (hh : DgOk L.h) (A : Option Addr) (N C : Nat) (now : Int) :
    Calls Try.prog 21 #[.agg (lkC L (.slice A N C)).toArray, .int .i64 now] w fun e w' => e = .returned (.int .i64 (backE L N now)) ∧ Below w.heap.size w w' := by
  obtain ⟨L0, hL0⟩ : ∃ x, L = x := ⟨_, rfl⟩
  rw [hL0] at hh ⊢
  clear hL0 L
  have HSL := Lib.hid (lk_sz hh (.slice A N C))
  have HCK := Lib.hid (fun w' => lcheck_any w' L0 hh A N C)
  obtain ⟨zc, hz⟩ : ∃ z, checkL L0.k L0.s L0.c L0.u N = z := ⟨_, rfl⟩
  have HOO : Hid (backE L0 N now = if zc = 0 then (if now ≤ L0.u then 20 else 0) else zc) := by show _ = _; rw [backE, hz]
  rw [hz] at HCK
  clear hz
  obtain ⟨R, hR⟩ : ∃ R, backE L0 N now = R := ⟨_, rfl⟩
  rw [hR] at HOO ⊢
  clear hR
  obtain ⟨l, hl⟩ : ∃ x, lkC L0 (.slice A N C) = x := ⟨_, rfl⟩
  obtain ⟨X, hX⟩ : ∃ X, l.toArray = X := ⟨_, rfl⟩
  obtain ⟨w1, hw1⟩ : ∃ w1, w.alloc (.cells X 26) = w1 := ⟨_, rfl⟩
  have hb1 : Below w.heap.size w w1 := hw1 ▸ below_new w _
  have kx : Bk w1 w.heap.size 26 l := hw1 ▸ Bk.new' w _ X (by rw [← hX])
  have HLM : Hid (∀ w' g', Bk w' g' 26 l → LkM w' g' L0 (.slice A N C)) := fun w' g' h' => by rw [← hl] at h'; exact lk_mem hh h'
  have HW := Lib.hid hw1; have HBB1 := Lib.hid hb1; have HX1 := Lib.hid kx
  rw [hl] at HSL HCK
  rw [hl, hX]
  clear hl hX hw1 hb1 kx hh
  by_cases hz0 : zc = 0
  · subst hz0
    by_cases hn : now ≤ L0.u
    · have HR : Hid (R = 20) := by show _ = _; rw [HOO.out, if_pos rfl, if_pos hn]
      have hd : decide (now ≤ L0.u) = true := by simpa using hn
      clear hn
      go_enter Try.func21, Try.ntmps21
      go_upto_region 1 with fail
      rw [HW.out]
      go_wp2_with (with_reducible refine wpList_load_bk rfl 26 _ rfl w.heap.size rfl l 26 HX1.out _ Try.underlying26 rfl HSL.out ?_)
      refine (HCK.out w1).mono ?_
      rintro e w2 ⟨rfl, hbn⟩
      have HB2 := Lib.hid (below_then HBB1.out hbn)
      have c12 := (HLM.out w2 _ (HX1.out.later hbn)).c12
      clear hbn
      go_wp2_with fail
      go_ret
      exact ⟨by rw [HR.out]; rfl, HB2.out⟩
    · have HR : Hid (R = 0) := by show _ = _; rw [HOO.out, if_pos rfl, if_neg hn]
      have hd : decide (now ≤ L0.u) = false := by simpa using hn
      clear hn
      go_enter Try.func21, Try.ntmps21
      go_upto_region 1 with fail
      rw [HW.out]
      go_wp2_with (with_reducible refine wpList_load_bk rfl 26 _ rfl w.heap.size rfl l 26 HX1.out _ Try.underlying26 rfl HSL.out ?_)
      refine (HCK.out w1).mono ?_
      rintro e w2 ⟨rfl, hbn⟩
      have HB2 := Lib.hid (below_then HBB1.out hbn)
      have c12 := (HLM.out w2 _ (HX1.out.later hbn)).c12
      clear hbn
      go_wp2_with fail
      go_ret
      exact ⟨by rw [HR.out]; rfl, HB2.out⟩
  · have h1 : (zc != 0) = true := by simpa using hz0
    have HR : Hid (R = zc) := by show _ = _; rw [HOO.out, if_neg hz0]
    clear hz0
    go_enter Try.func21, Try.ntmps21
    go_upto_region 1 with fail
    rw [HW.out]
    go_wp2_with (with_reducible refine wpList_load_bk rfl 26 _ rfl w.heap.size rfl l 26 HX1.out _ Try.underlying26 rfl HSL.out ?_)
    refine (HCK.out w1).mono ?_
    rintro e w2 ⟨rfl, hbn⟩
    have HB2 := Lib.hid (below_then HBB1.out hbn)
    clear hbn
    go_wp2_with fail
    go_ret
    exact ⟨by rw [HR.out]; rfl, HB2.out⟩
theorem sgO_by (es : List Ent) (m : List Int) (many : Int) (ks : List (List Int)) : ∀ i, es.length + i ≤ 65536 → ∀ b ∈ (sgO es m many ks i).1, ByOk b ∧ b.length ≤ 2
  | 0, _ => fun b hb => by simp [sgO] at hb
  | i + 1, hi => by
    have ih := sgO_by es m many ks i (by omega)
    have h2 := (sgO_len es m many ks i).2
    rw [sgO]
    split
    · intro b hb
      rcases List.mem_append.1 hb with hb | hb
      · exact ih b hb
      · rw [List.mem_singleton] at hb
        subst hb
        refine ⟨fun x hx => ?_, by simp [sigB]⟩
        have h3 := List.idxOf_le_length (a := (ks.getD i [], m)) (l := (sgO es m many ks i).2)
        simp only [sigB, List.mem_cons, List.not_mem_nil, or_false] at hx
        rcases hx with rfl | rfl <;> omega
    · intro b hb
      rcases List.mem_append.1 hb with hb | hb
      · exact ih b hb
      · rw [List.mem_singleton] at hb
        subst hb
        exact ⟨fun x hx => by simp at hx, by simp⟩
theorem out_pr {w : World} {es : List Ent} {m : List Int} {many : Int} {ks : List (List Int)} {n : Nat} {B E : Option Addr} {M D Q F : Nat} {zs : List Int} {ps : List Pc} (h1 : w.ownsRow 0 56 1 (.slice E Q F) Q (ps.map Pc.v)) (h2 : PcsOwn w 0 ps) (h3 : ps.map Pc.bs = (sgO es m many ks n).1) (hel : es.length + n ≤ 65536) (hz : w.ownsRow 0 3 1 (.slice B M D) M (zs.map (.int .i64))) (zr : ∀ z ∈ zs, 0 ≤ z ∧ z ≤ 1125899906842624) (ml : M ≤ 1000) : PrT w B M zs E Q ps := by
  have hb : ∀ p ∈ ps, ByOk p.bs ∧ p.bs.length ≤ 2 := fun p hp => sgO_by es m many ks n hel _ (by rw [← h3]; exact List.mem_map.2 ⟨p, hp, rfl⟩)
  refine ⟨Sl.of_own hz, zr, Sl.of_own h1, h2.ok, fun p hp => (hb p hp).1, fun p hp => ?_, ml⟩
  have h4 := (h2 p hp).1
  have h5 := (hb p hp).2
  simp at h4
  omega
theorem Rw.lk {w : World} {L : LkT} {A B : Option Addr} {N C M D : Nat} {zs : List Int} (h : Rw w L.ks A N C zs B M D) (ko : DsOk L.ks) (ho : DgOk L.h) (hn : N ≤ 1000) : LkK w L A N := ⟨Sl.of_own h.k, ko, ho, hn⟩
theorem build_dg (x : Int) (w : World) : (Instr.build 23 #[(0, .int .u8 x)]).run Try.prog w = .ok (.agg (dl [x, 0, 0, 0, 0, 0, 0, 0]).toArray) w := by kernel_rfl
def tolL : LkT := ⟨1, [9, 0, 0, 0, 0, 0, 0, 0], [[1, 0, 0, 0, 0, 0, 0, 0], [2, 0, 0, 0, 0, 0, 0, 0]], 0, 10, 5⟩
theorem build_tol (A : Option Addr) (N C : Nat) (w : World) : (Instr.build 26 #[(0, .int .i64 1), (1, .agg (dl [9, 0, 0, 0, 0, 0, 0, 0]).toArray), (2, .slice A N C), (4, .int .i64 10), (5, .int .i64 5)]).run Try.prog w = .ok (.agg (lkC tolL (.slice A N C)).toArray) w := by kernel_rfl
theorem bs_i2 (a b : Int) (w : World) : (Instr.buildSlice 27 2 #[(0, .int .i64 a), (1, .int .i64 b)]).run Try.prog w = .ok (.slice (some ⟨w.heap.size, 0, none⟩) 2 2) (w.alloc (.cells (([a, b] : List Int).map (.int .i64)).toArray 3)) := by kernel_rfl
theorem tolL_ok : DsOk tolL.ks := fun d hd => by
  simp only [tolL, List.mem_cons, List.not_mem_nil, or_false] at hd
  rcases hd with rfl | rfl <;> exact ⟨rfl, fun b hb => by simp at hb; omega⟩
theorem tolL_h : DgOk tolL.h := ⟨rfl, fun b hb => by simp [tolL] at hb; omega⟩
theorem tol_check : checkL tolL.k tolL.s tolL.c tolL.u 2 = 0 := by decide
set_option maxRecDepth 20000 in
set_option maxHeartbeats 8000000 in
theorem ltold_any (w : World) : Calls Try.prog 12 #[] w fun e w' => e = .returned (.bool true) ∧ Below w.heap.size w w' := by
  go_enter Try.func12, Try.ntmps12
  go_wp2_with fail
  refine (newBook_any w).mono ?_
  rintro e w2 ⟨⟨g, rfl, hbk⟩, hbn⟩
  have HBK2 := Lib.hid hbk; have HB2 := Lib.hid hbn
  clear hbk hbn
  have h9 := build_dg 9; have h1 := build_dg 1; have h2 := build_dg 2
  go_wp2_with (first
    | ((with_reducible refine wpList_build rfl 23 _ rfl #[(0, .int .u8 9)] ?_ _ (h9 _) ?_); focus (simp [Act.eval, Act.put]; done))
    | ((with_reducible refine wpList_build rfl 23 _ rfl #[(0, .int .u8 1)] ?_ _ (h1 _) ?_); focus (simp [Act.eval, Act.put]; done))
    | ((with_reducible refine wpList_build rfl 23 _ rfl #[(0, .int .u8 2)] ?_ _ (h2 _) ?_); focus (simp [Act.eval, Act.put]; done))
    | (with_reducible refine stop_bs 24 _ _ rfl ?_))
  clear h9 h1 h2
  refine StopD.go ?_
  have hd1 : DgOk [1, 0, 0, 0, 0, 0, 0, 0] := tolL_ok _ (by simp [tolL]); have hd2 : DgOk [2, 0, 0, 0, 0, 0, 0, 0] := tolL_ok _ (by simp [tolL])
  refine wpList_bsliceG rfl 24 2 _ rfl #[(0, .agg (dl [1, 0, 0, 0, 0, 0, 0, 0]).toArray), (1, .agg (dl [2, 0, 0, 0, 0, 0, 0, 0]).toArray)] ?_ 23 (cellsD tolL.ks) (fun w => bs_two hd1 hd2 w) ?_
  · simp [Act.eval, Act.put]
  intro gk w3 hgk hbk3 hbn
  have HBK3 := Lib.hid (HBK2.out.later hbn); have HB3 := Lib.hid (below_then HB2.out hbn); have HK3 := Lib.hid hbk3
  clear hgk hbk3 hbn hd1 hd2 HBK2
  have hbt := build_tol (some ⟨gk, 0, none⟩) 2 2
  go_wp2_with (first
    | ((with_reducible refine wpList_build rfl 26 _ rfl #[(0, .int .i64 1), (1, .agg (dl [9, 0, 0, 0, 0, 0, 0, 0]).toArray), (2, .slice (some ⟨gk, 0, none⟩) 2 2), (4, .int .i64 10), (5, .int .i64 5)] ?_ _ (hbt _) ?_); focus (simp [Act.eval, Act.put]; done))
    | (with_reducible refine stop_store 26 _ _ rfl ?_))
  clear hbt
  refine StopD.go ?_
  obtain ⟨lc, hlc⟩ : ∃ l, lkC tolL (.slice (some ⟨gk, 0, none⟩) 2 2) = l := ⟨_, rfl⟩
  have HLC := Lib.hid hlc
  have HSL : Hid ((Try.prog.info? 26).map (·.size) = some lc.length) := by show _ = _; rw [← hlc]; exact lk_sz tolL_h _
  have HL1 : Hid (∀ x ∈ lc, x.oneCell' = true) := by rw [← hlc]; exact lk_one _ _ _ _
  have HLN : Hid (lc.length = 13) := by show _ = _; rw [← hlc]; exact lkC_len tolL_h _
  rw [hlc]
  clear hlc
  obtain ⟨gl, hgl⟩ : ∃ q, w3.heap.size = q := ⟨_, rfl⟩
  obtain ⟨w4, hw4⟩ : ∃ w', w3.alloc (.cells #[.int .i64 0, .int .u8 0, .int .u8 0, .int .u8 0, .int .u8 0, .int .u8 0, .int .u8 0, .int .u8 0, .int .u8 0, .slice none 0 0, .int .i64 0, .int .i64 0, .int .i64 0] 26) = w' := ⟨_, rfl⟩
  have hbn : Below w3.heap.size w3 w4 := hw4 ▸ below_new w3 _
  have kt : Bk w4 gl 26 ([] ++ ([.int .i64 0, .int .u8 0, .int .u8 0, .int .u8 0, .int .u8 0, .int .u8 0, .int .u8 0, .int .u8 0, .int .u8 0, .slice none 0 0, .int .i64 0, .int .i64 0, .int .i64 0] ++ [])) := by rw [← hw4]; exact Bk.at_ w3 _ _ hgl rfl
  rw [hgl, hw4]
  refine wpList_store_part rfl 26 _ _ rfl gl 0 (.agg lc.toArray) lc rfl rfl rfl 26 [] _ [] kt rfl (by rw [HLN.out]; rfl) HSL.out HL1.out ?_
  intro w5 hp
  have hbn : Below w3.heap.size w3 w5 := hbn.grown hp.only hbn.size (fun q' hq' => by injection hq' with hq'; omega)
  have HL5 : Hid (Bk w5 gl 26 lc) := by show Bk _ _ _ _; have := hp.bk; simpa using this
  have HBK5 := Lib.hid (HBK3.out.later hbn); have HB5 := Lib.hid (below_then HB3.out hbn); have HK5 := Lib.hid (HK3.out.later hbn)
  clear hp hbn kt hgl hw4 HBK3 HB3 HK3
  go_wp2_with (first
    | (with_reducible refine wpList_load_bk rfl 26 _ rfl gl rfl lc 26 HL5.out _ Try.underlying26 rfl HSL.out ?_)
    | (with_reducible refine stop_bs 27 _ _ rfl ?_))
  refine StopD.go ?_
  refine wpList_bsliceG rfl 27 2 _ rfl #[(0, .int .i64 4), (1, .int .i64 16)] ?_ 3 (([4, 16] : List Int).map (.int .i64)) (fun w => bs_i2 4 16 w) ?_
  · simp [Act.eval, Act.put]
  intro gz w6 hgz hbz hbn
  have HBK6 := Lib.hid (HBK5.out.later hbn); have HB6 := Lib.hid (below_then HB5.out hbn); have HK6 := Lib.hid (HK5.out.later hbn); have HL6 := Lib.hid (HL5.out.later hbn); have HZ6 := Lib.hid hbz
  clear hgz hbz hbn HBK5 HB5 HK5 HL5
  have HRW : Hid (Rw w6 tolL.ks (some ⟨gk, 0, none⟩) 2 2 [4, 16] (some ⟨gz, 0, none⟩) 2 2) := ⟨HK6.out.own (Nat.zero_le _) (Nat.le_refl _) (by omega) (by rw [cellsD_len tolL_ok]; rfl) (by rw [List.take_of_length_le (by rw [cellsD_len tolL_ok]; exact Nat.le_refl _)]), HZ6.out.own (Nat.zero_le _) (Nat.le_refl _) (by omega) rfl rfl⟩
  have HIO : Hid (I64Ok [4, 16]) := fun z hz => by simp at hz; omega
  go_wp2_with fail
  rw [← HLC.out]
  refine (outcome_any w6 w.heap.size g [] HBK6.out tolL tolL_h tolL_ok (some ⟨gk, 0, none⟩) 2 2 (by omega) (by simp) [4, 16] HIO.out (some ⟨gz, 0, none⟩) 2 2 (by omega) HRW.out HB6.out.size 2).mono ?_
  rintro e w7 ⟨⟨E, F, ps, rfl, h1, h2, h3⟩, hbk, hb, hk, hrw⟩
  have HSG : Hid (allB (sgO [] (msgO tolL.h [4, 16]) 2 tolL.ks 2).2 (msgO tolL.h [4, 16]) tolL.ks ps [] = true) := by
    show _ = _
    exact sgO_all (es := []) (many := 2) (ks := tolL.ks) (by decide) h3
  have HBK7 := Lib.hid hbk; have HL7 := Lib.hid (HL6.out.keeps hk (by decide) (by decide)); have HB7 := Lib.hid (HB6.out.trans hb)
  have HP7 := Lib.hid (out_pr h1 h2 h3 (by simp) hrw.z (fun z hz => by simp at hz; omega) (by omega)); have HLK7 := Lib.hid (hrw.lk tolL_ok tolL_h (by omega))
  clear h1 h2 h3 hbk hb hk hrw HBK6 HB6 HK6 HL6 HZ6 HRW HIO
  obtain ⟨pc, hpc⟩ : ∃ l, pfC zeroD (.slice (some ⟨gz, 0, none⟩) 2 2) (.slice E 2 F) = l := ⟨_, rfl⟩
  have HPC := Lib.hid hpc
  have HSP : Hid ((Try.prog.info? 39).map (·.size) = some pc.length) := by show _ = _; rw [← hpc]; exact pf_sz zero_ok _ _
  have HP1 : Hid (∀ x ∈ pc, x.oneCell' = true) := by rw [← hpc]; exact pf_one _ _ _ _ _ _ _
  have HPN : Hid (pc.length = 10) := by show _ = _; rw [← hpc]; exact pfC_len zero_ok _ _
  rw [hpc]
  clear hpc
  obtain ⟨es2, hes2⟩ : ∃ e, (sgO [] (msgO tolL.h [4, 16]) 2 tolL.ks 2).2 = e := ⟨_, rfl⟩
  have HE2 : Hid (es2.length ≤ 65536) := by show es2.length ≤ 65536; rw [← hes2]; have := (sgO_len [] (msgO tolL.h [4, 16]) 2 tolL.ks 2).2; simp at this; omega
  rw [hes2] at HBK7 HSG
  clear hes2
  go_wp2_with (with_reducible refine stop_store 39 _ _ rfl ?_)
  refine StopD.go ?_
  obtain ⟨gp, hgp⟩ : ∃ q, w7.heap.size = q := ⟨_, rfl⟩
  obtain ⟨w8, hw8⟩ : ∃ w', w7.alloc (.cells #[.int .u8 0, .int .u8 0, .int .u8 0, .int .u8 0, .int .u8 0, .int .u8 0, .int .u8 0, .int .u8 0, .slice none 0 0, .slice none 0 0] 39) = w' := ⟨_, rfl⟩
  have hbn : Below w7.heap.size w7 w8 := hw8 ▸ below_new w7 _
  have kt : Bk w8 gp 39 ([] ++ (zPf ++ [])) := by rw [← hw8]; exact Bk.at_ w7 _ _ hgp rfl
  rw [hgp, hw8]
  refine wpList_store_part rfl 39 _ _ rfl gp 0 (.agg pc.toArray) pc rfl rfl rfl 39 [] zPf [] kt rfl (by rw [HPN.out]; rfl) HSP.out HP1.out ?_
  intro w9 hp
  have hbn : Below w7.heap.size w7 w9 := hbn.grown hp.only hbn.size (fun q' hq' => by injection hq' with hq'; omega)
  have HF9 : Hid (Bk w9 gp 39 pc) := by show Bk _ _ _ _; have := hp.bk; simpa using this
  have HBK9 := Lib.hid (HBK7.out.later hbn); have HB9 := Lib.hid (below_then HB7.out hbn); have HL9 := Lib.hid (HL7.out.later hbn); have HP9 := Lib.hid (HP7.out.later hbn); have HLK9 := Lib.hid (HLK7.out.later hbn)
  clear hp hbn kt hgp hw8 HBK7 HB7 HL7 HP7 HLK7
  go_wp2_with (first
    | (with_reducible refine wpList_load_bk rfl 26 _ rfl gl rfl lc 26 HL9.out _ Try.underlying26 rfl HSL.out ?_)
    | (with_reducible refine wpList_load_bk rfl 39 _ rfl gp rfl pc 39 HF9.out _ Try.underlying39 rfl HSP.out ?_))
  have hop := fun w' hbk hlk hpr => open_any w' w.heap.size g es2 hbk HE2.out tolL (some ⟨gk, 0, none⟩) 2 2 hlk zeroD zero_ok (some ⟨gz, 0, none⟩) E 2 2 2 F [4, 16] ps hpr (fun _ => rfl)
  rw [HLC.out, HPC.out] at hop
  have HOP := Lib.hid hop
  clear hop
  refine (HOP.out w9 HBK9.out HLK9.out HP9.out 5).mono ?_
  rintro e w10 ⟨rfl, hbn⟩
  have HBK10 := Lib.hid (HBK9.out.later hbn); have HB10 := Lib.hid (below_then HB9.out hbn); have HL10 := Lib.hid (HL9.out.later hbn); have HP10 := Lib.hid (HP9.out.later hbn); have HLK10 := Lib.hid (HLK9.out.later hbn); have HF10 := Lib.hid (HF9.out.later hbn)
  clear hbn HBK9 HB9 HL9 HP9 HLK9 HF9
  have h5 : openO es2 tolL 2 5 zeroD [4, 16] ps = (6, 0) := by
    rw [openO, if_pos tol_check, if_neg (by decide), if_neg (by decide), outO, if_neg (by decide), HSG.out, if_pos rfl]
    rfl
  have h6 : openO es2 tolL 2 6 zeroD [4, 16] ps = (0, 19) := by
    rw [openO, if_pos tol_check, if_pos (by decide)]
  rw [h5]
  clear h5
  have H6 := Lib.hid h6
  clear h6
  go_wp2_with (first
    | (with_reducible refine wpList_load_bk rfl 26 _ rfl gl rfl lc 26 HL10.out _ Try.underlying26 rfl HSL.out ?_)
    | (with_reducible refine wpList_load_bk rfl 39 _ rfl gp rfl pc 39 HF10.out _ Try.underlying39 rfl HSP.out ?_))
  refine (HOP.out w10 HBK10.out HLK10.out HP10.out 6).mono ?_
  rintro e w11 ⟨rfl, hbn⟩
  have HB11 := Lib.hid (below_then HB10.out hbn); have HL11 := Lib.hid (HL10.out.later hbn)
  clear hbn HBK10 HB10 HL10 HP10 HLK10 HF10
  rw [H6.out]
  have hbk := fun w' now => back_any w' tolL tolL_h (some ⟨gk, 0, none⟩) 2 2 now
  have hck := fun w' => lcheck_any w' tolL tolL_h (some ⟨gk, 0, none⟩) 2 2
  rw [HLC.out] at hbk hck
  have HBA := Lib.hid hbk; have HCA := Lib.hid hck
  clear hbk hck
  go_wp2_with ((with_reducible refine wpList_load_bkG ?_ 26 _ rfl gl rfl lc 26 HL11.out _ Try.underlying26 rfl HSL.out ?_); rfl)
  refine (HBA.out w11 5).mono ?_
  rintro e w12 ⟨rfl, hbn⟩
  have HB12 := Lib.hid (below_then HB11.out hbn); have HL12 := Lib.hid (HL11.out.later hbn)
  clear hbn HB11 HL11
  rw [show backE tolL 2 5 = 20 by decide]
  go_wp2_with ((with_reducible refine wpList_load_bkG ?_ 26 _ rfl gl rfl lc 26 HL12.out _ Try.underlying26 rfl HSL.out ?_); rfl)
  refine (HBA.out w12 6).mono ?_
  rintro e w13 ⟨rfl, hbn⟩
  have HB13 := Lib.hid (below_then HB12.out hbn); have HL13 := Lib.hid (HL12.out.later hbn)
  clear hbn HB12 HL12
  rw [show backE tolL 2 6 = 0 by decide]
  go_wp2_with ((with_reducible refine wpList_load_bkG ?_ 26 _ rfl gl rfl lc 26 HL13.out _ Try.underlying26 rfl HSL.out ?_); rfl)
  refine (HCA.out w13).mono ?_
  rintro e w14 ⟨rfl, hbn⟩
  have HB14 := Lib.hid (below_then HB13.out hbn)
  clear hbn HB13 HL13
  rw [tol_check]
  go_wp2_with fail
  go_ret
  exact ⟨rfl, HB14.out⟩
end Go.Proofs.Ytbclfjdamklbpaa
