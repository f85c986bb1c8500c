/- A digest, read. -/
import Derived.Test.YthibihjblodfmaaQ8
import Derived.Test.YthibihjblodfmaaOB
namespace Go.Proofs.Ythibihjblodfmaa
open Go.RowKit

/-- A digest off a reader: what it leaves, the digest, the error. -/
def digD (s : Rd) : Rd × List Int × Int :=
  if (someR s 8).1.err = 0 then (if (someR s 8).2.length = 8 then ((someR s 8).1, (someR s 8).2, 0) else ((someR s 8).1, zeroD, 3)) else ((someR s 8).1, zeroD, (someR s 8).1.err)
def RetD (g L : Nat) (q : Rd × List Int × Int) (w : World) (e : Ending) (w' : World) : Prop :=
  e = .returned (.tuple #[.agg (dl q.2.1).toArray, .int .i64 q.2.2]) ∧ RdAt w' g L q.1 ∧ w.grownBy w' (some g)
theorem digD_ok {s : Rd} (hs : ByOk s.rest) : DgOk (digD s).2.1 := by
  unfold digD
  split
  · split
    · rename_i h1 h2
      refine ⟨h2, fun b hb => ?_⟩
      have : ByOk (someR s 8).2 := by
        unfold someR
        split
        · split
          · split
            · split
              · exact (hs.drop _).take _
              · exact fun b hb => by cases hb
            · exact fun b hb => by cases hb
          · exact fun b hb => by cases hb
        · exact fun b hb => by cases hb
      exact this b hb
    · exact zero_ok
  · exact zero_ok
theorem dig_ret {w : World} {g : Nat} {t : List Int} {n : Int} (ht : DgOk t) (h : Bk w g 29 (dl t)) (tmps : Array Value) (h2 : tmps.getD 2 undef = .pointer (some ⟨g, 0, none⟩)) (h3 : tmps.getD 3 undef = .int .i64 n) :
    (results Try.f71 tmps).run Try.prog w = .ok (.tuple #[.agg (dl t).toArray, .int .i64 n]) w := by
  have r1 : w.rangeAt g 0 (dl t) := Bk.range (pre := []) (post := []) (by simpa using h) rfl
  have l1 := run_loadVar_mid (P := Try.prog) w g 0 29 (dl t) _ r1 Try.underlying29 rfl (dg_sz ht)
  rw [Array.getD_eq_getD_getElem?] at h2 h3
  simp [results, Try.results71, h2, h3, asAddr, l1]
theorem arr_at {A : Option Addr} {c : Nat} (W : World) : (Instr.arrayAt 29 (.slice A 8 c)).run Try.prog W = .ok (.pointer A) W := by
  unfold Instr.arrayAt
  simp [underlying, Try.underlying29]
set_option maxRecDepth 20000 in
set_option maxHeartbeats 4000000 in
theorem digest_any (w : World) (g : Nat) {L : Nat} (s : Rd) (h : RdAt w g L s) (hL : L ≤ w.heap.size) : Calls Try.prog 71 #[.pointer (some ⟨g, 0, none⟩)] w (RetD g L (digD s) w) := by
  obtain ⟨w1, hw1⟩ : ∃ w1, w.alloc (.cells #[.int .u8 0, .int .u8 0, .int .u8 0, .int .u8 0, .int .u8 0, .int .u8 0, .int .u8 0, .int .u8 0] 29) = w1 := ⟨_, rfl⟩
  have hb1 : Below w.heap.size w w1 := hw1 ▸ below_new w _
  have kd : Bk w1 w.heap.size 29 ([] ++ (dl zeroD ++ [])) := hw1 ▸ Bk.new' w _ #[.int .u8 0, .int .u8 0, .int .u8 0, .int .u8 0, .int .u8 0, .int .u8 0, .int .u8 0, .int .u8 0] rfl
  have HW := Lib.hid hw1; have HB := Lib.hid hb1; have HD := Lib.hid kd; have HR := Lib.hid (h.later hb1); have HLL := Lib.hid hL
  have HZ8 : Hid ((Try.prog.info? 29).map (·.size) = some (dl zeroD).length) := by show _ = _; kernel_rfl
  have hgl := h.lt
  have HDO := Lib.hid (digD_ok h.ok)
  obtain ⟨p, hp⟩ : ∃ p, someR s 8 = p := ⟨_, rfl⟩
  obtain ⟨q, hq⟩ : ∃ q, digD s = q := ⟨_, rfl⟩
  rw [hq] at HDO ⊢
  have HP := Lib.hid hp; have HQ := Lib.hid hq
  clear h hw1 hb1 kd hp hq
  go_enter Try.func71, Try.ntmps71
  go_upto_region 1 with fail
  rw [HW.out]
  go_wp2_with fail
  refine (rdBytes_any _ g s HR.out 8 (by omega) (by omega)).mono ?_
  rw [HP.out]
  rintro e w2 ⟨v, rfl, hown, hrd, hgr⟩
  obtain ⟨A, c, rfl⟩ := own_form hown
  have HG2 : Hid (w.grownBy w2 (some g)) := only_trans (HW.out ▸ only_alloc (only_refl' w (some g)) _) hgr
  have HD2 := Lib.hid (HD.out.grown hgr (by intro h; injection h with h; omega))
  have HR2 := Lib.hid hrd
  have HO2 := Lib.hid hown
  clear hown hrd hgr
  go_wp2_with fail
  refine (rdErr_any _ g p.1 HR2.out).mono ?_
  rintro e w3 ⟨rfl, rfl⟩
  by_cases he : p.1.err = 0
  · have he1 : (p.1.err != 0) = false := by simp [he]
    by_cases hl : p.2.length = 8
    · have HQ2 : Hid (q = (p.1, p.2, 0)) := by show _ = _; rw [← HQ.out, digD, HP.out, if_pos he, if_pos hl]
      rw [HQ2.out] at HDO
      rw [hl] at HO2 ⊢
      obtain ⟨g2, cap, e2, hr2⟩ : ∃ (g2 cap : Nat), (Value.slice A 8 c) = .slice (some ⟨g2, 0, none⟩) 8 cap ∧ w2.rangeAt g2 0 (dl p.2) := by
        obtain ⟨g2, cap, e, _, _⟩ := HO2.out.form (by omega)
        refine ⟨g2, cap, e, fun j v hv => ?_⟩
        have := HO2.out.cells (by rw [e]; rfl) j v hv
        have e8 : (⟨g2, 0, none⟩ : Addr).add j = ⟨g2, 0 + j, none⟩ := by unfold Addr.add; split <;> simp_all
        rw [← e8]; exact this
      injection e2 with e2 e3 e4
      subst e2 e4
      have HR8 := Lib.hid hr2
      have ha : ∀ W, (Instr.arrayAt 29 (.slice (some ⟨g2, 0, none⟩) 8 c)).run Try.prog W = .ok (.pointer (some ⟨g2, 0, none⟩)) W := fun W => arr_at W
      have HP8 : Hid ((Try.prog.info? 29).map (·.size) = some (dl p.2).length) := by show _ = _; rw [dl_len, hl]; exact dg_size
      have HPL : Hid ((dl p.2).length = (dl zeroD).length) := by show _ = _; rw [dl_len, dl_len, hl]; rfl
      clear he hl hr2 HQ
      go_wp2_with (first
        | (with_reducible refine wpList_load_mid rfl 29 _ rfl g2 0 rfl (dl p.2) _ HR8.out Try.underlying29 rfl HP8.out ?_)
        | (with_reducible refine stop_store 29 _ _ rfl ?_))
      refine StopD.go ?_
      refine wpList_store_part rfl 29 _ _ rfl w.heap.size 0 (.agg (dl p.2).toArray) (dl p.2) rfl rfl rfl 29 [] (dl zeroD) [] HD2.out rfl HPL.out.symm HP8.out (dl_one p.2) ?_
      intro w4 hp4
      have HG4 : Hid (w.grownBy w4 (some g)) := ⟨hp4.only.os.trans HG2.out.os, hp4.only.tape.trans HG2.out.tape, hp4.only.output.trans HG2.out.output, Nat.le_trans HG2.out.size hp4.only.size, fun i hi hne => (hp4.only.block i (Nat.lt_of_lt_of_le hi HG2.out.size) (by intro h; injection h with h; omega)).trans (HG2.out.block i hi hne)⟩
      have HR4 : Hid (RdAt w4 g L p.1) := HR2.out.only hp4.only (by omega) HLL.out
      have HD4 : Hid (Bk w4 w.heap.size 29 (dl p.2)) := by show Bk _ _ _ _; have := hp4.bk; simpa using this
      clear hp4
      go_wp2_with fail
      refine bodyPost_ret (dig_ret HDO.out HD4.out _ rfl rfl) rfl ?_
      rw [HQ2.out]
      exact ⟨rfl, HR4.out, HG4.out⟩
    · have HQ2 : Hid (q = (p.1, zeroD, 3)) := by show _ = _; rw [← HQ.out, digD, HP.out, if_pos he, if_neg hl]
      rw [HQ2.out] at HDO
      have hl1 : ((p.2.length : Int) != 8) = true := by simp; omega
      clear he hl HQ
      go_wp2_with (with_reducible refine stop_store 29 _ _ rfl ?_)
      refine StopD.go ?_
      refine wpList_store_part rfl 29 _ _ rfl w.heap.size 0 (.agg (dl zeroD).toArray) (dl zeroD) rfl rfl rfl 29 [] (dl zeroD) [] HD2.out rfl rfl HZ8.out (dl_one zeroD) ?_
      intro w4 hp4
      have HG4 : Hid (w.grownBy w4 (some g)) := ⟨hp4.only.os.trans HG2.out.os, hp4.only.tape.trans HG2.out.tape, hp4.only.output.trans HG2.out.output, Nat.le_trans HG2.out.size hp4.only.size, fun i hi hne => (hp4.only.block i (Nat.lt_of_lt_of_le hi HG2.out.size) (by intro h; injection h with h; omega)).trans (HG2.out.block i hi hne)⟩
      have HR4 : Hid (RdAt w4 g L p.1) := HR2.out.only hp4.only (by omega) HLL.out
      have HD4 : Hid (Bk w4 w.heap.size 29 (dl zeroD)) := by show Bk _ _ _ _; have := hp4.bk; simpa using this
      clear hp4
      go_wp2_with fail
      refine bodyPost_ret (dig_ret HDO.out HD4.out _ rfl rfl) rfl ?_
      rw [HQ2.out]
      exact ⟨rfl, HR4.out, HG4.out⟩
  · have he1 : (p.1.err != 0) = true := by simp [he]
    have HQ2 : Hid (q = (p.1, zeroD, p.1.err)) := by show _ = _; rw [← HQ.out, digD, HP.out, if_neg he]
    rw [HQ2.out] at HDO
    clear he HQ
    go_wp2_with (with_reducible refine stop_store 29 _ _ rfl ?_)
    refine StopD.go ?_
    refine wpList_store_part rfl 29 _ _ rfl w.heap.size 0 (.agg (dl zeroD).toArray) (dl zeroD) rfl rfl rfl 29 [] (dl zeroD) [] HD2.out rfl rfl HZ8.out (dl_one zeroD) ?_
    intro w4 hp4
    have HG4 : Hid (w.grownBy w4 (some g)) := ⟨hp4.only.os.trans HG2.out.os, hp4.only.tape.trans HG2.out.tape, hp4.only.output.trans HG2.out.output, Nat.le_trans HG2.out.size hp4.only.size, fun i hi hne => (hp4.only.block i (Nat.lt_of_lt_of_le hi HG2.out.size) (by intro h; injection h with h; omega)).trans (HG2.out.block i hi hne)⟩
    have HR4 : Hid (RdAt w4 g L p.1) := HR2.out.only hp4.only (by omega) HLL.out
    have HD4 : Hid (Bk w4 w.heap.size 29 (dl zeroD)) := by show Bk _ _ _ _; have := hp4.bk; simpa using this
    clear hp4
    go_wp2_with fail
    refine bodyPost_ret (dig_ret HDO.out HD4.out _ rfl rfl) rfl ?_
    rw [HQ2.out]
    exact ⟨rfl, HR4.out, HG4.out⟩
end Go.Proofs.Ythibihjblodfmaa
