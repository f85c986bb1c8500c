/- FundKeeps. -/
import Derived.Test.YtfapechlnllfaabF9
import Derived.Test.YtfapechlnllfaabFA
import Derived.Deep.OwnRows
import Derived.Deep.RegionHeld3
import Derived.Deep.QuietTactic
import Derived.BigQuiet
namespace Go.Proofs.Ytfapechlnllfaab
open Go.RowKit

def inG (zs : List Int) (d : List Bool) : List Int := List.zipWith (fun x y => if y then x else 0) zs d
theorem inG_len {zs : List Int} {d : List Bool} (h : d.length = zs.length) : (inG zs d).length = zs.length := by simp [inG, h]
theorem inG_get {zs : List Int} {d : List Bool} {k : Nat} {x : Int} {y : Bool} (hx : zs[k]? = some x) (hy : d[k]? = some y) : (inG zs d)[k]? = some (if y then x else 0) := by
  simp [inG, List.getElem?_zipWith, hx, hy]
theorem inG_set : ∀ {zs : List Int} {d : List Bool} {k : Nat} {x : Int} (u : Bool), zs[k]? = some x → inG zs (d.set k u) = (inG zs d).set k (if u then x else 0)
  | [], _, _, _, _, h => by simp at h
  | z :: zs, [], k, x, u, _ => by simp [inG]
  | z :: zs, y :: d, 0, x, u, h => by simp at h; subst h; simp [inG]
  | z :: zs, y :: d, k + 1, x, u, h => by
    have := inG_set (d := d) (k := k) u (zs := zs) (by simpa using h)
    simpa [inG] using this
theorem inG_zero : ∀ (zs : List Int) (n : Nat), zs.length = n → inG zs (List.replicate n false) = List.replicate n 0
  | [], n, h => by simp at h; subst h; rfl
  | z :: zs, n, h => by
    obtain ⟨m, rfl⟩ : ∃ m, n = m + 1 := ⟨zs.length, by simpa using h.symm⟩
    have := inG_zero zs m (by simpa using h)
    simp only [inG, List.replicate_succ, List.zipWith_cons_cons] at this ⊢
    rw [this]; rfl

structure Keeps (w1 : World) (ga g1 B n : Nat) (zs : List Int) (b : Int) (w : World) (d : List Bool) : Prop where
  fund : FundAt w ga zs d b
  own : w.ownsRow B 3 1 (.slice (some ⟨g1, 0, none⟩) n n) n ((inG zs d).map (.int .i64))
  below : Below w1.heap.size w1 w
section
variable {w1 w w' : World} {ga g1 B n : Nat} {zs : List Int} {b : Int} {d : List Bool}
theorem Keeps.step (h : Keeps w1 ga g1 B n zs b w d) {d' : List Bool} (hf : FundAt w' ga zs d' b) (hg : w.grownBy w' (some ga)) (h1 : w1.heap.size ≤ ga) (hne : g1 ≠ ga) :
    FundAt w' ga zs d' b ∧ w'.ownsRow B 3 1 (.slice (some ⟨g1, 0, none⟩) n n) n ((inG zs d).map (.int .i64)) ∧ Below w1.heap.size w1 w' :=
  ⟨hf, own_only h.own hg (by simp [Value.ownBlock]; exact hne), below_only h.below hg h.below.size h1⟩
theorem Keeps.put {xs : List Int} {k : Nat} {v : Value} (h : FundAt w ga zs d b ∧ w.ownsRow B 3 1 (.slice (some ⟨g1, 0, none⟩) n n) n (xs.map (.int .i64)) ∧ Below w1.heap.size w1 w)
    (hne : g1 ≠ ga) (h1 : w1.heap.size ≤ g1) (hx : (xs.map (Value.int .i64)).set k v = (inG zs d).map (.int .i64)) : Keeps w1 ga g1 B n zs b (w.setCell ⟨g1, k, none⟩ v) d :=
  ⟨⟨h.1.bk.far (Ne.symm hne) _, h.1.ok⟩, hx ▸ (h.2.1.stored k _).1, h.2.2.setCell h1 _⟩
theorem quiet_left {P : Program} {f : FuncId} {args : Array Value} {w : World} {n : Nat} {v : Value}
    (h : Calls P f args (w.drewN n) fun e w' => e = .returned v ∧ w.drewN n = w') : Calls P f args (w.drewN n) fun e w'' => e = .returned v ∧ ∃ m, w'' = w.drewN m :=
  h.mono fun _ _ ⟨he, hm⟩ => ⟨he, n, hm.symm⟩
theorem Keeps.drewN (h : Keeps w1 ga g1 B n zs b w d) (q : Nat) : Keeps w1 ga g1 B n zs b (w.drewN q) d := ⟨h.fund.drewN q, own_keep h.own (below_draws _ _ q), h.below.trans (below_draws _ _ _)⟩
end
theorem back_zero {l : List Int} {d : List Bool} {s : Int} (hd : d.length = l.length) (h : backE l d s = 0) : ∃ (k : Nat) (x : Int), s = k ∧ l[k]? = some x ∧ d[k]? = some true ∧ backV l d s = x ∧ backD l d s = d.set k false := by
  have h0 := h
  unfold backE at h
  by_cases h1 : hasB l s = false
  · rw [if_pos h1] at h; cases h
  rw [if_neg h1] at h
  obtain ⟨k, rfl, hk⟩ := has_of (by simpa using h1)
  by_cases h2 : d.getD (k : Int).toNat false = false
  · rw [if_pos h2] at h; cases h
  have hk' : k < d.length := by omega
  refine ⟨k, l[k], rfl, List.getElem?_eq_getElem hk, ?_, ?_, ?_⟩
  · simp [hk'] at h2; rw [List.getElem?_eq_getElem hk', h2]
  · rw [backV, if_pos h0]; simp [hk]
  · rw [backD, if_pos h0]; rfl
theorem back_not {l : List Int} {d : List Bool} {s : Int} (h : backE l d s ≠ 0) : backV l d s = 0 ∧ backD l d s = d := ⟨by rw [backV, if_neg h], by rw [backD, if_neg h]⟩
theorem lay_zero {l : List Int} {d : List Bool} {b s amt now : Int} (hd : d.length = l.length) (h : layE l d b s amt now = 0) : ∃ (k : Nat), s = k ∧ l[k]? = some amt ∧ d[k]? = some false ∧ layD l d b s amt now = d.set k true := by
  have h0 := h
  unfold layE at h
  by_cases h1 : hasB l s = false
  · rw [if_pos h1] at h; cases h
  rw [if_neg h1] at h
  by_cases h3 : b < now
  · rw [if_pos h3] at h; cases h
  rw [if_neg h3] at h
  obtain ⟨k, rfl, hk⟩ := has_of (by simpa using h1)
  by_cases h2 : d.getD (k : Int).toNat false = true
  · rw [if_pos h2] at h; cases h
  rw [if_neg h2] at h
  by_cases h4 : amt ≠ l.getD (k : Int).toNat 0
  · rw [if_pos h4] at h; cases h
  have hk' : k < d.length := by omega
  refine ⟨k, rfl, ?_, ?_, ?_⟩
  · simp [hk] at h4; rw [h4, List.getElem?_eq_getElem hk]
  · simp [hk'] at h2; rw [List.getElem?_eq_getElem hk', h2]
  · rw [layD, if_pos h0]; rfl
theorem lay_not {l : List Int} {d : List Bool} {b s amt now : Int} (h : layE l d b s amt now ≠ 0) : layD l d b s amt now = d := by rw [layD, if_neg h]
section
variable {w1 w w' : World} {ga g1 B n : Nat} {zs : List Int} {b : Int} {d : List Bool}
theorem act_keep {w1 w : World} (hb : Below w1.heap.size w1 w) {ab : Nat} (hab : ab < w1.heap.size) {o : Nat} {v : Value} (h : w1.cell? ⟨ab, o, none⟩ = some v) : w.cell? ⟨ab, o, none⟩ = some v :=
  (hb.cell (p := ⟨ab, o, none⟩) hab).trans h
end

set_option maxRecDepth 20000 in
set_option maxHeartbeats 2000000 in
theorem law_FundKeeps (A : Option Addr) (n c : Nat) (zs : List Int) (b : Int) (A2 : Option Addr) (n2 c2 : Nat) (l : List Act4) (w : World) (h : Sl w w.heap.size 1 A n (zs.map (.int .i64)))
    (h2 : Sl w w.heap.size 4 A2 n2 (l.flatMap actV)) (hl2 : l.length = n2) :
    Calls Try.prog 5 #[.agg #[.slice A n c, .int .i64 b], .slice A2 n2 c2] w fun e w' => e = .returned (.bool true) ∧ Below w.heap.size w w' := by
  have hl := h.length
  have HL := Lib.hid hl; clear hl
  have hn2 := h2.le
  obtain ⟨w1, hw1⟩ : ∃ w1, w.alloc (.cells #[.slice A n c, .int .i64 b] 24) = w1 := ⟨_, rfl⟩
  have hb1 : Below w.heap.size w w1 := hw1 ▸ below_new _ _
  have hs1 := h.later hb1
  have ha1 := h2.later hb1
  have hk1 : Bk w1 w.heap.size 24 [.slice A n c, .int .i64 b] := hw1 ▸ Bk.new w _ #[.slice A n c, .int .i64 b]
  have HK := Lib.hid hk1
  have HS := Lib.hid hs1
  have HA := Lib.hid ha1
  have HL2 := Lib.hid hl2
  have HW := Lib.hid hw1
  obtain ⟨c0, c1⟩ := start_cells hk1 (Below.refl _ _)
  have hlt := hk1.lt
  clear h h2 hk1 hs1 ha1 hw1 hl2
  by_cases h40 : (40 : Int) < n2
  · go_enter Try.func5, Try.ntmps5
    go_wp2_with fail
    rw [HW.out]
    refine (told_any _).mono ?_
    rintro e w' ⟨rfl, hbt⟩
    go_wp2_with fail
    go_ret
    exact ⟨rfl, below_then hb1 hbt⟩
  have h40' : decide ((40 : Int) < n2) = false := by simp; omega
  go_enter Try.func5, Try.ntmps5
  go_wp2_with fail
  rw [HW.out]
  refine (new_any _ _ _ _ _ _ HS.out).mono ?_
  rintro e w2 (⟨hne, rfl, rfl⟩ | ⟨hz, rfl, hfa, hbw⟩)
  · have hk : (newE zs b == 0) = false := by simpa using hne
    go_wp2_with (go_at_call 12; refine (told_any _).mono ?_; rintro e w' ⟨rfl, hbt⟩)
    go_ret
    exact ⟨rfl, below_then hb1 hbt⟩
  · obtain ⟨ok, hs0, _, hs1⟩ := new_ok_of hz
    have n2' := ok.n2
    have n8 := ok.n8
    rw [HL.out] at n2' n8
    obtain ⟨ga, hga⟩ : ∃ ga, w1.heap.size = ga := ⟨_, rfl⟩
    have hgl := hfa.lt
    rw [hga] at hfa hlt hgl ⊢
    rw [HL.out] at hfa
    obtain ⟨d0, d1⟩ := start_cells HK.out hbw
    have hmk := run_make_row' (P := Try.prog) 22 3 (.int .i64 0) 8 Try.underlying22 (by kernel_rfl) rfl .i64 .i64 n (by omega) (by omega)
    obtain ⟨g1, hg1⟩ : ∃ g1, w2.heap.size = g1 := ⟨_, rfl⟩
    have hne : g1 ≠ ga := by omega
    have hga' : w1.heap.size ≤ ga := by omega
    have hg1' : w1.heap.size ≤ g1 := by have := hbw.size; omega
    have hkeep : Keeps w1 ga g1 w1.heap.size n zs b (w2.alloc (.cells (madeCells #[.int .i64 0] n) 3)) (List.replicate n false) := by
      refine ⟨hfa.later (below_new _ _), ?_, hbw.trans ((below_new _ _).mono hbw.size)⟩
      rw [inG_zero _ _ HL.out, ← hg1]
      have hk := Bk.new w2 3 (madeCells #[.int .i64 0] n)
      exact hk.own (by omega) (Nat.le_refl _) (by omega) (by rw [toList_made]; simp) (by rw [toList_made]; simp)
    have HKE := Lib.hid hkeep; have HGA := Lib.hid hga; have HOK := Lib.hid ok
    clear hkeep hfa c0 c1 hz ok hga
    go_wp2_with fail
    obtain ⟨w3, hw3⟩ : ∃ w3, w2.alloc (.cells (madeCells #[.int .i64 0] n) 3) = w3 := ⟨_, rfl⟩
    rw [hw3] at HKE ⊢
    clear hw3 hmk d0 d1 hbw hg1
    go_loopw [8] (fun ix wr => ∃ (i : Nat) (d : List Bool), i ≤ n2 ∧ ix = .int .i64 i ∧ Keeps w1 ga g1 w1.heap.size n zs b wr d) (fun ix _ => n2 - (intOf ix).toNat)
    case atStart => exact ⟨0, _, Nat.zero_le _, rfl, HKE.out⟩
    case round =>
      obtain ⟨i, dq, hi, rfl, hkp⟩ := hrel
      by_cases hlt : i < n2
      · obtain ⟨ab, ao, ⟨pb, ps, pa, pn⟩, rfl, hab, hx, b0, b1, b2, b3⟩ := act_at HA.out HL2.out hlt
        simp only at b0 b1 b2 b3
        have a0 := act_keep hkp.below hab b0
        have a1 := act_keep hkp.below hab b1
        have a2 := act_keep hkp.below hab b2
        have a3 := act_keep hkp.below hab b3
        have B0 := Lib.hid b0; have B1 := Lib.hid b1; have B2 := Lib.hid b2; have B3 := Lib.hid b3; have HKP := Lib.hid hkp
        clear hkp hx b0 b1 b2 b3
        go_upto_if 48 with fail
        go_cut [7] (fun s wx => s = .slice (some ⟨g1, 0, none⟩) n n ∧ ∃ d, Keeps w1 ga g1 w1.heap.size n zs b wx d)
        case first =>
          cases pb
          · go_wp2_with fail
            go_still_tail 16, (by kernel_rfl)
            change wpList _ _ _ _ _ wr.drew
            go_wp2_with fail
            refine (lay_any _ _ _ _ _ (HKP.out.fund.drewN 1) ps pa pn).mono ?_
            rintro e w4 ⟨rfl, hf4, hg4⟩
            obtain ⟨s1, s2, s3⟩ := (HKP.out.drewN 1).step hf4 hg4 hga' hne
            have a1 := act_keep s3 hab B1.out
            have a2 := act_keep s3 hab B2.out
            by_cases hE : layE zs dq b ps pa pn = 0
            · obtain ⟨k, rfl, hx, hd, hD⟩ := lay_zero HKP.out.fund.ok.dl hE
              rw [hD] at s1
              rw [hE]
              have hkn : k < n := by have := (List.getElem?_eq_some_iff.1 hx).1; have := HL.out; omega
              have hst : w4.cell? ⟨g1, k, none⟩ = some (.int .i64 0) := by
                rw [s2.cellAt k (by omega), List.getElem?_map, inG_get hx hd]; rfl
              have hfr := s2.frozenAt k
              obtain ⟨p1, p2⟩ := HKP.out.fund.ok.pos pa (List.mem_of_getElem? hx)
              have HX := Lib.hid hx; have S1 := Lib.hid s1; have S2 := Lib.hid s2; have S3 := Lib.hid s3
              clear hE hx hd hD s1 s2 s3 hf4 hg4
              go_wp2_with fail
              go_still_tail 15, (by kernel_rfl)
              change wpList _ _ _ _ _ w4.drew
              go_wp2_with fail
              go_meet
              go_light
              refine ⟨rfl, _, Keeps.put ⟨S1.out.drewN 1, own_keep S2.out (below_draws _ _ 1), S3.out.trans (below_draws _ _ 1)⟩ hne hg1' ?_⟩
              rw [← List.map_set, inG_set true HX.out]; rfl
            · have hD := lay_not hE
              rw [hD] at s1
              have hE' : (layE zs dq b ps pa pn == 0) = false := by simpa using hE
              obtain ⟨le, hle⟩ : ∃ le, layE zs dq b ps pa pn = le := ⟨_, rfl⟩
              rw [hle] at hE' ⊢
              have hkp4 : Keeps w1 ga g1 w1.heap.size n zs b w4 dq := ⟨s1, s2, s3⟩
              have HK4 := Lib.hid hkp4
              clear hE hle hD s1 s2 s3 hf4 hg4 hkp4
              go_wp2_with fail
              go_meet
              go_light
              exact ⟨rfl, _, HK4.out⟩
          · go_wp2_with fail
            go_region_held3 (fun w' => w'.cell? ⟨ab, ao + i * 4 + 1, none⟩ = some (.int .i64 ps) ∧ w'.cell? ⟨ab, ao + i * 4 + 3, none⟩ = some (.int .i64 pn)) (first | go_keep | (exact ⟨act_keep hb4 hab B1.out, act_keep hb4 hab B3.out⟩))
              (first
                | (go_at_call 18; refine (back_any wr.drew ga zs dq b (HKP.out.fund.drewN 1) ps pn).mono ?_; rintro e w4 ⟨rfl, hf4, hg4⟩; have hb4 : Below w1.heap.size w1 w4 := below_only (HKP.out.below.trans (below_draws wr _ 1)) hg4 HKP.out.below.size hga'))
            obtain ⟨s1, s2, s3⟩ := (HKP.out.drewN 1).step hf4 hg4 hga' hne
            have a1 := act_keep s3 hab B1.out
            by_cases hE : backE zs dq ps = 0
            · obtain ⟨k, x, rfl, hx, hd, hV, hD⟩ := back_zero HKP.out.fund.ok.dl hE
              rw [hD] at s1
              rw [hE, hV]
              have hkn : k < n := by have := (List.getElem?_eq_some_iff.1 hx).1; have := HL.out; omega
              have hst : w4.cell? ⟨g1, k, none⟩ = some (.int .i64 x) := by
                rw [s2.cellAt k (by omega), List.getElem?_map, inG_get hx hd]; rfl
              have hfr := s2.frozenAt k
              obtain ⟨p1, p2⟩ := HKP.out.fund.ok.pos x (List.mem_of_getElem? hx)
              have HX := Lib.hid hx; have S1 := Lib.hid s1; have S2 := Lib.hid s2; have S3 := Lib.hid s3
              clear hE hx hd hV hD s1 s2 s3 hf4 hg4 hb4
              go_wp2_with fail
              go_meet
              go_light
              refine ⟨rfl, _, Keeps.put ⟨S1.out, S2.out, S3.out⟩ hne hg1' ?_⟩
              rw [← List.map_set, inG_set false HX.out]; rfl
            · obtain ⟨hV, hD⟩ := back_not hE
              rw [hD] at s1
              rw [hV]
              have hE' : (backE zs dq ps == 0) = false := by simpa using hE
              have hE2 : (backE zs dq ps != 0) = true := by simpa using hE
              obtain ⟨le, hle⟩ : ∃ le, backE zs dq ps = le := ⟨_, rfl⟩
              rw [hle] at hE' hE2 ⊢
              have hkp4 : Keeps w1 ga g1 w1.heap.size n zs b w4 dq := ⟨s1, s2, s3⟩
              have HK4 := Lib.hid hkp4
              clear hE hle hV hD s1 s2 s3 hf4 hg4 hkp4 hb4
              go_wp2_with fail
              go_meet
              go_light
              exact ⟨rfl, _, HK4.out⟩
        obtain ⟨rfl, d, hkp⟩ := hcut
        have HK5 := Lib.hid hkp
        clear hkp HKP
        go_wp2_with fail
        go_loopw [11, 12] (fun sx kx wr => ∃ (k : Nat) (sv : Int), k ≤ n ∧ kx = .int .i64 k ∧ sx = .int .i64 sv ∧ 0 ≤ sv ∧ sv ≤ 1125899906842624 * (k : Int) ∧ Hid (sv + heldG (zs.drop k) (d.drop k) = heldG zs d) ∧ Keeps w1 ga g1 w1.heap.size n zs b wr d) (fun _ kx _ => n - (intOf kx).toNat)
        case atStart => exact ⟨0, 0, Nat.zero_le _, rfl, rfl, by omega, by omega, by show _ = _; simp, HK5.out⟩
        case round =>
          obtain ⟨k, sv, hk, rfl, rfl, hs1, hs2, hs, hkp⟩ := hrel
          have HKP := Lib.hid hkp; clear hkp
          by_cases hlt : k < n
          · have k1 : k < zs.length := by have := HL.out; omega
            have k2 : k < d.length := by have := HKP.out.fund.ok.dl; omega
            have e1 := hs.out
            rw [drop_cons (List.getElem?_eq_getElem k1), drop_cons (List.getElem?_eq_getElem k2)] at e1
            simp only [heldG] at e1
            obtain ⟨p1, p2⟩ := HKP.out.fund.ok.pos zs[k] (List.getElem_mem k1)
            have eg := given_at k1 k2
            have hst0 := HKP.out.own.cellAt k (by have := hlt; omega)
            rw [List.getElem?_map, inG_get (List.getElem?_eq_getElem k1) (List.getElem?_eq_getElem k2)] at hst0
            obtain ⟨v, hv⟩ : ∃ v, v = (if d[k] then zs[k] else 0) := ⟨_, rfl⟩
            have v0 : 0 ≤ v ∧ v ≤ 1125899906842624 := by rw [hv]; split <;> omega
            obtain ⟨v1, v2⟩ := v0
            rw [← hv] at e1 eg hst0
            have hst : wr.cell? ⟨g1, k, none⟩ = some (.int .i64 v) := hst0
            have E1 := Lib.hid e1; have EG := Lib.hid eg; clear e1 eg hv p1 p2 k1 k2 hst0
            have hv0 : decide (v < 0) = false := by simp; omega
            have hkn : (k : Int) < n := by omega
            go_wp2_with fail
            go_quiet ((go_at_call 19; exact quiet_left (EG.out ▸ given_any _ _ _ _ _ (HKP.out.fund.drewN _) k)))
            go_wp2_with fail
            go_roundw
            case rel => exact ⟨k + 1, sv + v, by omega, by go_num, rfl, by omega, by omega, by have := E1.out; show _ = _; omega, HKP.out.drewN _⟩
            case measure => simp [intOf]; omega
          · obtain rfl : k = n := by omega
            have e1 := hs.out
            rw [List.drop_eq_nil_of_le (by have := HL.out; omega)] at e1
            simp [heldG] at e1
            have E1 := Lib.hid e1; clear e1
            go_wp2_with fail
            refine (held_any _ _ _ _ _ HKP.out.fund).mono ?_
            rintro e w' ⟨rfl, rfl⟩
            rw [← E1.out]
            go_wp2_with fail
            go_roundw
            case rel => exact ⟨i + 1, d, by omega, by go_num, HKP.out⟩
            case measure => simp [intOf]; omega
      · obtain rfl : i = n2 := by omega
        have hbl := hkp.below
        clear hkp
        go_wp2_with fail
        refine (told_any _).mono ?_
        rintro e w7 ⟨rfl, hb7⟩
        have hbl7 := hbl.trans (hb7.mono hbl.size)
        go_wp2_with fail
        go_ret
        exact ⟨rfl, below_then hb1 hbl7⟩
theorem law_FundKeeps' (A : Option Addr) (n c : Nat) (zs : List Int) (b : Int) (A2 : Option Addr) (n2 c2 : Nat) (l : List Act4) (w : World) (h : Sl w w.heap.size 1 A n (zs.map (.int .i64)) ∧ ∀ z ∈ zs, (Lit.int .i64 z).wf = true)
    (h2 : l.length = n2 ∧ Sl w w.heap.size 4 A2 n2 (l.flatMap actV) ∧ ∀ p ∈ l, (Lit.int .i64 p.2.1).wf = true ∧ (Lit.int .i64 p.2.2.1).wf = true ∧ (Lit.int .i64 p.2.2.2).wf = true) :
    Calls Try.prog 5 #[.agg #[.slice A n c, .int .i64 b], .slice A2 n2 c2] w fun e w' => e = .returned (.bool true) ∧ Below w.heap.size w w' :=
  law_FundKeeps A n c zs b A2 n2 c2 l w h.1 h2.2.1 h2.1
end Go.Proofs.Ytfapechlnllfaab
