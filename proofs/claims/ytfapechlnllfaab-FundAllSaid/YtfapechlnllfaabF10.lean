/- FundAll. -/
import Derived.Test.YtfapechlnllfaabF9
import Derived.Test.YtfapechlnllfaabFA
namespace Go.Proofs.Ytfapechlnllfaab
open Go.RowKit

theorem held_list : ∀ (l : List Int) (d : List Bool), d.length = l.length → (∀ x ∈ l, 0 < x ∧ x ≤ 1125899906842624) → heldG l d ≤ l.foldr (· + ·) 0 ∧ (d.all id = true → heldG l d = l.foldr (· + ·) 0) ∧ (d.all id = false → heldG l d < l.foldr (· + ·) 0)
  | [], [], _, _ => by simp [heldG]
  | x :: l, y :: d, h, hp => by
    obtain ⟨h1, h2, h3⟩ := held_list l d (by simpa using h) (fun z hz => hp z (by simp [hz]))
    have hx := hp x (by simp)
    cases y
    · simp [heldG]; omega
    · simp only [heldG, List.foldr_cons, List.all_cons, id, Bool.true_and, if_true]
      exact ⟨by omega, fun e => by have := h2 e; omega, fun e => by have := h3 e; omega⟩
  | [], _ :: _, h, _ => by simp at h
  | _ :: _, [], h, _ => by simp at h
theorem held_all {l : List Int} {d : List Bool} {b : Int} (ok : FundOk l d b) : (d.all id = true → heldG l d = l.foldr (· + ·) 0) ∧ (d.all id = false → heldG l d < l.foldr (· + ·) 0) :=
  (held_list l d ok.dl ok.pos).2

set_option maxRecDepth 20000 in
set_option maxHeartbeats 2000000 in
theorem law_FundAll (A : Option Addr) (n c : Nat) (zs : List Int) (b : Int) (A2 : Option Addr) (n2 c2 : Nat) (l : List Act4) (now : Int) (w : World) (h : Sl w w.heap.size 1 A n (zs.map (.int .i64)))
    (h2 : Sl w w.heap.size 4 A2 n2 (l.flatMap actV)) (hl2 : l.length = n2) :
    Calls Try.prog 8 #[.agg #[.slice A n c, .int .i64 b], .slice A2 n2 c2, .int .i64 now] w fun e w' => e = .returned (.bool true) ∧ Below w.heap.size w w' := by
  have hl := h.length
  have HL := Lib.hid hl; clear hl
  have hn2 := h2.le
  obtain ⟨w1, hw1⟩ : ∃ w1, w.alloc (.cells #[.slice A n c, .int .i64 b] 24) = w1 := ⟨_, rfl⟩
  have hb1 : Below w.heap.size w w1 := hw1 ▸ below_new _ _
  have hs1 := h.later hb1
  have ha1 := h2.later hb1
  have hk1 : Bk w1 w.heap.size 24 [.slice A n c, .int .i64 b] := hw1 ▸ Bk.new w _ #[.slice A n c, .int .i64 b]
  have HK := Lib.hid hk1
  have HS := Lib.hid hs1
  have HA := Lib.hid ha1
  have HL2 := Lib.hid hl2
  have HW := Lib.hid hw1
  obtain ⟨c0, c1⟩ := start_cells hk1 (Below.refl _ _)
  have hlt := hk1.lt
  clear h h2 hk1 hs1 ha1 hw1 hl2
  by_cases h40 : (40 : Int) < n2
  · go_enter Try.func8, Try.ntmps8
    go_wp2_with fail
    rw [HW.out]
    refine (told_any _).mono ?_
    rintro e w' ⟨rfl, hbt⟩
    go_wp2_with fail
    go_ret
    exact ⟨rfl, below_then hb1 hbt⟩
  have h40' : decide ((40 : Int) < n2) = false := by simp; omega
  go_enter Try.func8, Try.ntmps8
  go_wp2_with fail
  rw [HW.out]
  refine (new_any _ _ _ _ _ _ HS.out).mono ?_
  rintro e w2 (⟨hne, rfl, rfl⟩ | ⟨hz, rfl, hfa, hbw⟩)
  · have hk : (newE zs b == 0) = false := by simpa using hne
    go_wp2_with (go_at_call 12; refine (told_any _).mono ?_; rintro e w' ⟨rfl, hbt⟩)
    go_ret
    exact ⟨rfl, below_then hb1 hbt⟩
  · obtain ⟨ok, hs0, _, hs1⟩ := new_ok_of hz
    have n2' := ok.n2
    have n8 := ok.n8
    rw [HL.out] at n2' n8
    obtain ⟨ga, hga⟩ : ∃ ga, w1.heap.size = ga := ⟨_, rfl⟩
    rw [hga] at hfa hlt ⊢
    rw [HL.out] at hfa
    have HFA := Lib.hid hfa; have HOK := Lib.hid ok; have HGA := Lib.hid hga; have HBW := Lib.hid hbw
    obtain ⟨d0, d1⟩ := start_cells HK.out hbw
    clear hfa hbw c0 c1 hz ok hga
    go_wp2_with fail
    refine (rsum_any _ _ _ _ _ (HS.out.later HBW.out)).mono ?_
    rintro e w' ⟨rfl, rfl⟩
    rw [hs0, hs1]
    obtain ⟨sm, hsm⟩ : ∃ sm, zs.foldr (· + ·) 0 = sm := ⟨_, rfl⟩
    rw [hsm]
    have HSM := Lib.hid hsm
    clear hsm hs0 hs1
    go_wp2_with fail
    go_loopw [11] (fun ix wr => ∃ (i : Nat) (d : List Bool), i ≤ n2 ∧ ix = .int .i64 i ∧ FundAt wr ga zs d b ∧ Below w1.heap.size w1 wr) (fun ix _ => n2 - (intOf ix).toNat)
    case atStart => exact ⟨0, _, Nat.zero_le _, rfl, HFA.out, HBW.out⟩
    case round =>
      obtain ⟨i, dq, hi, rfl, hf, hbl⟩ := hrel
      have HF := Lib.hid hf; have HBL := Lib.hid hbl
      by_cases hlt : i < n2
      · obtain ⟨ab, ao, ⟨pb, ps, pa, pn⟩, rfl, hab, hx, a0, a1, a2, a3⟩ := act_at (HA.out.later hbl) HL2.out hlt
        simp only at a0 a1 a2 a3
        clear hf hbl hx
        obtain ⟨hstep, hstep2⟩ : (∀ w3 : World, w3 = w3 → True) ∧ True := ⟨fun _ _ => trivial, trivial⟩
        clear hstep hstep2
        cases pb
        · go_wp2_with fail
          go_still_tail 16, (by kernel_rfl)
          change wpList _ _ _ _ _ wr.drew
          go_wp2_with fail
          refine (lay_any _ _ _ _ _ (HF.out.drewN 1) ps pa pn).mono ?_
          rintro e w3 ⟨rfl, hf3, hg3⟩
          obtain ⟨d, hd⟩ : ∃ d, layD zs dq b ps pa pn = d := ⟨_, rfl⟩
          rw [hd] at hf3
          have hb3 := below_only (HBL.out.trans (below_draws wr _ 1)) hg3 HBL.out.size (by rw [HGA.out]; exact Nat.le_refl _)
          have hok3 := hf3.ok
          obtain ⟨hsum1, hsum2⟩ := held_all hok3
          clear hd
          have HF3 := Lib.hid hf3; have HB3 := Lib.hid hb3; have HK3 := Lib.hid hok3
          clear hf3 hb3 hg3 hok3
          cases hall : d.all id
          · have hpp : (phaseG d b now == 1) = false := by
              unfold phaseG; rw [hall]; by_cases hbn : b < now <;> simp [hbn]
            have hhd : (heldG zs d == sm) = false := by have := hsum2 hall; rw [HSM.out] at this; simp; omega
            clear hsum1 hsum2
            go_wp2_with fail
            refine (phase_any _ _ _ _ _ HF3.out now).mono ?_
            rintro e w4 ⟨rfl, hb4⟩
            have HF4 := Lib.hid (HF3.out.later hb4); have HB4 := Lib.hid (HB3.out.trans (hb4.mono HB3.out.size))
            obtain ⟨x0, x1⟩ := start_cells HK.out HB4.out
            clear hb4 HF3 HB3
            go_wp2_with fail
            refine (held_any _ _ _ _ _ HF4.out).mono ?_
            rintro e w' ⟨rfl, rfl⟩
            go_wp2_with fail
            go_loopw [13] (fun kx wr => ∃ (k : Nat), k ≤ n ∧ kx = .int .i64 k ∧ FundAt wr ga zs d b ∧ Below w1.heap.size w1 wr) (fun kx _ => n - (intOf kx).toNat)
            case atStart => exact ⟨0, Nat.zero_le _, rfl, HF4.out, HB4.out⟩
            case round =>
              obtain ⟨k, hk, rfl, hf, hbl⟩ := hrel
              obtain ⟨f0, f1⟩ := start_cells HK.out hbl
              by_cases hlt : k < n
              · have k1 : k < zs.length := by have := HL.out; omega
                have k2 : k < d.length := by have := hf.ok.dl; omega
                obtain ⟨hp1, _⟩ := hf.ok.pos zs[k] (List.getElem_mem k1)
                have eg := given_at k1 k2
                obtain ⟨z, hz⟩ : ∃ z, zs[k] = z := ⟨_, rfl⟩
                have hz1 : decide (0 < z) = true := by simp; omega
                have hz2 : (z == 0) = false := by simp; omega
                rw [hz] at eg hp1
                have hE : backE zs d k = if d[k] = false then 9 else if d.all id then 10 else 0 := by simp [backE, has_true k1, k2]
                have hV : backV zs d k = if backE zs d k = 0 then z else 0 := by simp [backV, k1, hz]
                rw [hall] at hE
                have EG := Lib.hid eg; have HE := Lib.hid hE; have HV := Lib.hid hV; have HF := Lib.hid hf; have HB := Lib.hid hbl
                clear eg hE hV hf hbl
                cases hdk : d[k]
                · have hv : givenG zs d k = 0 := by rw [EG.out, hdk]; rfl
                  have he : backE zs d k = 9 := by rw [HE.out, hdk]; rfl
                  have hvv : backV zs d k = 0 := by rw [HV.out, he]; rfl
                  have HG := Lib.hid hv; have HE2 := Lib.hid he; have HV2 := Lib.hid hvv
                  clear hv he hvv
                  go_wp2_with fail
                  refine (clone_any _ _ _ _ _ HF.out).mono ?_
                  rintro e w5 ⟨rfl, ho5, hb5⟩
                  have HF5 := Lib.hid (HF.out.later hb5); have HO5 := Lib.hid ho5
                  have HB5 := Lib.hid (HB.out.trans (hb5.mono HB.out.size))
                  have hgo : w1.heap.size ≤ wr.heap.size := HB.out.size
                  have hgl := HF.out.lt
                  obtain ⟨go, hgo'⟩ : ∃ go, wr.heap.size = go := ⟨_, rfl⟩
                  rw [hgo'] at HO5 hgo hgl ⊢
                  clear ho5 hb5 hgo'
                  go_wp2_with fail
                  refine (given_any _ _ _ _ _ HF5.out k).mono ?_
                  rintro e w' ⟨rfl, rfl⟩
                  rw [HG.out]
                  go_wp2_with fail
                  have hq := back_any _ _ _ _ _ HO5.out k now
                  rw [HE2.out, HV2.out] at hq
                  refine hq.mono ?_
                  rintro e w6 ⟨rfl, _, hg6⟩
                  have hf6 := HF5.out.grown hg6 (by simp; omega)
                  have hb6 := below_only HB5.out hg6 HB5.out.size hgo
                  go_wp2_with fail
                  go_roundw
                  case rel => exact ⟨k + 1, by omega, by go_num, hf6, hb6⟩
                  case measure => simp [intOf]; omega
                · have hv : givenG zs d k = z := by rw [EG.out, hdk]; rfl
                  have he : backE zs d k = 0 := by rw [HE.out, hdk]; rfl
                  have hvv : backV zs d k = z := by rw [HV.out, he]; rfl
                  have HG := Lib.hid hv; have HE2 := Lib.hid he; have HV2 := Lib.hid hvv
                  clear hv he hvv
                  go_wp2_with fail
                  refine (clone_any _ _ _ _ _ HF.out).mono ?_
                  rintro e w5 ⟨rfl, ho5, hb5⟩
                  have HF5 := Lib.hid (HF.out.later hb5); have HO5 := Lib.hid ho5
                  have HB5 := Lib.hid (HB.out.trans (hb5.mono HB.out.size))
                  have hgo : w1.heap.size ≤ wr.heap.size := HB.out.size
                  have hgl := HF.out.lt
                  obtain ⟨go, hgo'⟩ : ∃ go, wr.heap.size = go := ⟨_, rfl⟩
                  rw [hgo'] at HO5 hgo hgl ⊢
                  clear ho5 hb5 hgo'
                  go_wp2_with fail
                  refine (given_any _ _ _ _ _ HF5.out k).mono ?_
                  rintro e w' ⟨rfl, rfl⟩
                  rw [HG.out]
                  go_wp2_with fail
                  have hq := back_any _ _ _ _ _ HO5.out k now
                  rw [HE2.out, HV2.out] at hq
                  refine hq.mono ?_
                  rintro e w6 ⟨rfl, _, hg6⟩
                  have hf6 := HF5.out.grown hg6 (by simp; omega)
                  have hb6 := below_only HB5.out hg6 HB5.out.size hgo
                  go_wp2_with fail
                  go_roundw
                  case rel => exact ⟨k + 1, by omega, by go_num, hf6, hb6⟩
                  case measure => simp [intOf]; omega
              · obtain rfl : k = n := by omega
                have HF := Lib.hid hf; have HB := Lib.hid hbl
                clear hf hbl
                go_wp2_with fail
                go_roundw
                case rel => exact ⟨i + 1, d, by omega, by go_num, HF.out, HB.out⟩
                case measure => simp [intOf]; omega
          · have hpp : phaseG d b now = 1 := by simp [phaseG, hall]
            have hhd : heldG zs d = sm := by rw [← HSM.out]; exact hsum1 hall
            clear hsum1 hsum2
            go_wp2_with fail
            refine (phase_any _ _ _ _ _ HF3.out now).mono ?_
            rintro e w4 ⟨rfl, hb4⟩
            have HF4 := Lib.hid (HF3.out.later hb4); have HB4 := Lib.hid (HB3.out.trans (hb4.mono HB3.out.size))
            obtain ⟨x0, x1⟩ := start_cells HK.out HB4.out
            clear hb4 HF3 HB3
            rw [hpp]
            go_wp2_with fail
            refine (held_any _ _ _ _ _ HF4.out).mono ?_
            rintro e w' ⟨rfl, rfl⟩
            rw [hhd]
            go_wp2_with fail
            go_loopw [13] (fun kx wr => ∃ (k : Nat), k ≤ n ∧ kx = .int .i64 k ∧ FundAt wr ga zs d b ∧ Below w1.heap.size w1 wr) (fun kx _ => n - (intOf kx).toNat)
            case atStart => exact ⟨0, Nat.zero_le _, rfl, HF4.out, HB4.out⟩
            case round =>
              obtain ⟨k, hk, rfl, hf, hbl⟩ := hrel
              obtain ⟨f0, f1⟩ := start_cells HK.out hbl
              by_cases hlt : k < n
              · have k1 : k < zs.length := by have := HL.out; omega
                have k2 : k < d.length := by have := hf.ok.dl; omega
                obtain ⟨hp1, _⟩ := hf.ok.pos zs[k] (List.getElem_mem k1)
                have eg := given_at k1 k2
                obtain ⟨z, hz⟩ : ∃ z, zs[k] = z := ⟨_, rfl⟩
                have hz1 : decide (0 < z) = true := by simp; omega
                have hz2 : (z == 0) = false := by simp; omega
                rw [hz] at eg hp1
                have hE : backE zs d k = if d[k] = false then 9 else if d.all id then 10 else 0 := by simp [backE, has_true k1, k2]
                have hV : backV zs d k = if backE zs d k = 0 then z else 0 := by simp [backV, k1, hz]
                rw [hall] at hE
                have EG := Lib.hid eg; have HE := Lib.hid hE; have HV := Lib.hid hV; have HF := Lib.hid hf; have HB := Lib.hid hbl
                clear eg hE hV hf hbl
                cases hdk : d[k]
                · have hv : givenG zs d k = 0 := by rw [EG.out, hdk]; rfl
                  have he : backE zs d k = 9 := by rw [HE.out, hdk]; rfl
                  have hvv : backV zs d k = 0 := by rw [HV.out, he]; rfl
                  have HG := Lib.hid hv; have HE2 := Lib.hid he; have HV2 := Lib.hid hvv
                  clear hv he hvv
                  go_wp2_with fail
                  refine (clone_any _ _ _ _ _ HF.out).mono ?_
                  rintro e w5 ⟨rfl, ho5, hb5⟩
                  have HF5 := Lib.hid (HF.out.later hb5); have HO5 := Lib.hid ho5
                  have HB5 := Lib.hid (HB.out.trans (hb5.mono HB.out.size))
                  have hgo : w1.heap.size ≤ wr.heap.size := HB.out.size
                  have hgl := HF.out.lt
                  obtain ⟨go, hgo'⟩ : ∃ go, wr.heap.size = go := ⟨_, rfl⟩
                  rw [hgo'] at HO5 hgo hgl ⊢
                  clear ho5 hb5 hgo'
                  go_wp2_with fail
                  refine (given_any _ _ _ _ _ HF5.out k).mono ?_
                  rintro e w' ⟨rfl, rfl⟩
                  rw [HG.out]
                  go_wp2_with fail
                  have hq := back_any _ _ _ _ _ HO5.out k now
                  rw [HE2.out, HV2.out] at hq
                  refine hq.mono ?_
                  rintro e w6 ⟨rfl, _, hg6⟩
                  have hf6 := HF5.out.grown hg6 (by simp; omega)
                  have hb6 := below_only HB5.out hg6 HB5.out.size hgo
                  go_wp2_with fail
                  go_roundw
                  case rel => exact ⟨k + 1, by omega, by go_num, hf6, hb6⟩
                  case measure => simp [intOf]; omega
                · have hv : givenG zs d k = z := by rw [EG.out, hdk]; rfl
                  have he : backE zs d k = 10 := by rw [HE.out, hdk]; rfl
                  have hvv : backV zs d k = 0 := by rw [HV.out, he]; rfl
                  have HG := Lib.hid hv; have HE2 := Lib.hid he; have HV2 := Lib.hid hvv
                  clear hv he hvv
                  go_wp2_with fail
                  refine (clone_any _ _ _ _ _ HF.out).mono ?_
                  rintro e w5 ⟨rfl, ho5, hb5⟩
                  have HF5 := Lib.hid (HF.out.later hb5); have HO5 := Lib.hid ho5
                  have HB5 := Lib.hid (HB.out.trans (hb5.mono HB.out.size))
                  have hgo : w1.heap.size ≤ wr.heap.size := HB.out.size
                  have hgl := HF.out.lt
                  obtain ⟨go, hgo'⟩ : ∃ go, wr.heap.size = go := ⟨_, rfl⟩
                  rw [hgo'] at HO5 hgo hgl ⊢
                  clear ho5 hb5 hgo'
                  go_wp2_with fail
                  refine (given_any _ _ _ _ _ HF5.out k).mono ?_
                  rintro e w' ⟨rfl, rfl⟩
                  rw [HG.out]
                  go_wp2_with fail
                  have hq := back_any _ _ _ _ _ HO5.out k now
                  rw [HE2.out, HV2.out] at hq
                  refine hq.mono ?_
                  rintro e w6 ⟨rfl, _, hg6⟩
                  have hf6 := HF5.out.grown hg6 (by simp; omega)
                  have hb6 := below_only HB5.out hg6 HB5.out.size hgo
                  go_wp2_with fail
                  go_roundw
                  case rel => exact ⟨k + 1, by omega, by go_num, hf6, hb6⟩
                  case measure => simp [intOf]; omega
              · obtain rfl : k = n := by omega
                have HF := Lib.hid hf; have HB := Lib.hid hbl
                clear hf hbl
                go_wp2_with fail
                go_roundw
                case rel => exact ⟨i + 1, d, by omega, by go_num, HF.out, HB.out⟩
                case measure => simp [intOf]; omega
        · go_wp2_with fail
          go_still_tail 11, (by kernel_rfl)
          change wpList _ _ _ _ _ wr.drew
          go_wp2_with fail
          refine (back_any _ _ _ _ _ (HF.out.drewN 1) ps pn).mono ?_
          rintro e w3 ⟨rfl, hf3, hg3⟩
          obtain ⟨d, hd⟩ : ∃ d, backD zs dq ps = d := ⟨_, rfl⟩
          rw [hd] at hf3
          have hb3 := below_only (HBL.out.trans (below_draws wr _ 1)) hg3 HBL.out.size (by rw [HGA.out]; exact Nat.le_refl _)
          have hok3 := hf3.ok
          obtain ⟨hsum1, hsum2⟩ := held_all hok3
          clear hd
          have HF3 := Lib.hid hf3; have HB3 := Lib.hid hb3; have HK3 := Lib.hid hok3
          clear hf3 hb3 hg3 hok3
          cases hall : d.all id
          · have hpp : (phaseG d b now == 1) = false := by
              unfold phaseG; rw [hall]; by_cases hbn : b < now <;> simp [hbn]
            have hhd : (heldG zs d == sm) = false := by have := hsum2 hall; rw [HSM.out] at this; simp; omega
            clear hsum1 hsum2
            go_wp2_with fail
            refine (phase_any _ _ _ _ _ HF3.out now).mono ?_
            rintro e w4 ⟨rfl, hb4⟩
            have HF4 := Lib.hid (HF3.out.later hb4); have HB4 := Lib.hid (HB3.out.trans (hb4.mono HB3.out.size))
            obtain ⟨x0, x1⟩ := start_cells HK.out HB4.out
            clear hb4 HF3 HB3
            go_wp2_with fail
            refine (held_any _ _ _ _ _ HF4.out).mono ?_
            rintro e w' ⟨rfl, rfl⟩
            go_wp2_with fail
            go_loopw [13] (fun kx wr => ∃ (k : Nat), k ≤ n ∧ kx = .int .i64 k ∧ FundAt wr ga zs d b ∧ Below w1.heap.size w1 wr) (fun kx _ => n - (intOf kx).toNat)
            case atStart => exact ⟨0, Nat.zero_le _, rfl, HF4.out, HB4.out⟩
            case round =>
              obtain ⟨k, hk, rfl, hf, hbl⟩ := hrel
              obtain ⟨f0, f1⟩ := start_cells HK.out hbl
              by_cases hlt : k < n
              · have k1 : k < zs.length := by have := HL.out; omega
                have k2 : k < d.length := by have := hf.ok.dl; omega
                obtain ⟨hp1, _⟩ := hf.ok.pos zs[k] (List.getElem_mem k1)
                have eg := given_at k1 k2
                obtain ⟨z, hz⟩ : ∃ z, zs[k] = z := ⟨_, rfl⟩
                have hz1 : decide (0 < z) = true := by simp; omega
                have hz2 : (z == 0) = false := by simp; omega
                rw [hz] at eg hp1
                have hE : backE zs d k = if d[k] = false then 9 else if d.all id then 10 else 0 := by simp [backE, has_true k1, k2]
                have hV : backV zs d k = if backE zs d k = 0 then z else 0 := by simp [backV, k1, hz]
                rw [hall] at hE
                have EG := Lib.hid eg; have HE := Lib.hid hE; have HV := Lib.hid hV; have HF := Lib.hid hf; have HB := Lib.hid hbl
                clear eg hE hV hf hbl
                cases hdk : d[k]
                · have hv : givenG zs d k = 0 := by rw [EG.out, hdk]; rfl
                  have he : backE zs d k = 9 := by rw [HE.out, hdk]; rfl
                  have hvv : backV zs d k = 0 := by rw [HV.out, he]; rfl
                  have HG := Lib.hid hv; have HE2 := Lib.hid he; have HV2 := Lib.hid hvv
                  clear hv he hvv
                  go_wp2_with fail
                  refine (clone_any _ _ _ _ _ HF.out).mono ?_
                  rintro e w5 ⟨rfl, ho5, hb5⟩
                  have HF5 := Lib.hid (HF.out.later hb5); have HO5 := Lib.hid ho5
                  have HB5 := Lib.hid (HB.out.trans (hb5.mono HB.out.size))
                  have hgo : w1.heap.size ≤ wr.heap.size := HB.out.size
                  have hgl := HF.out.lt
                  obtain ⟨go, hgo'⟩ : ∃ go, wr.heap.size = go := ⟨_, rfl⟩
                  rw [hgo'] at HO5 hgo hgl ⊢
                  clear ho5 hb5 hgo'
                  go_wp2_with fail
                  refine (given_any _ _ _ _ _ HF5.out k).mono ?_
                  rintro e w' ⟨rfl, rfl⟩
                  rw [HG.out]
                  go_wp2_with fail
                  have hq := back_any _ _ _ _ _ HO5.out k now
                  rw [HE2.out, HV2.out] at hq
                  refine hq.mono ?_
                  rintro e w6 ⟨rfl, _, hg6⟩
                  have hf6 := HF5.out.grown hg6 (by simp; omega)
                  have hb6 := below_only HB5.out hg6 HB5.out.size hgo
                  go_wp2_with fail
                  go_roundw
                  case rel => exact ⟨k + 1, by omega, by go_num, hf6, hb6⟩
                  case measure => simp [intOf]; omega
                · have hv : givenG zs d k = z := by rw [EG.out, hdk]; rfl
                  have he : backE zs d k = 0 := by rw [HE.out, hdk]; rfl
                  have hvv : backV zs d k = z := by rw [HV.out, he]; rfl
                  have HG := Lib.hid hv; have HE2 := Lib.hid he; have HV2 := Lib.hid hvv
                  clear hv he hvv
                  go_wp2_with fail
                  refine (clone_any _ _ _ _ _ HF.out).mono ?_
                  rintro e w5 ⟨rfl, ho5, hb5⟩
                  have HF5 := Lib.hid (HF.out.later hb5); have HO5 := Lib.hid ho5
                  have HB5 := Lib.hid (HB.out.trans (hb5.mono HB.out.size))
                  have hgo : w1.heap.size ≤ wr.heap.size := HB.out.size
                  have hgl := HF.out.lt
                  obtain ⟨go, hgo'⟩ : ∃ go, wr.heap.size = go := ⟨_, rfl⟩
                  rw [hgo'] at HO5 hgo hgl ⊢
                  clear ho5 hb5 hgo'
                  go_wp2_with fail
                  refine (given_any _ _ _ _ _ HF5.out k).mono ?_
                  rintro e w' ⟨rfl, rfl⟩
                  rw [HG.out]
                  go_wp2_with fail
                  have hq := back_any _ _ _ _ _ HO5.out k now
                  rw [HE2.out, HV2.out] at hq
                  refine hq.mono ?_
                  rintro e w6 ⟨rfl, _, hg6⟩
                  have hf6 := HF5.out.grown hg6 (by simp; omega)
                  have hb6 := below_only HB5.out hg6 HB5.out.size hgo
                  go_wp2_with fail
                  go_roundw
                  case rel => exact ⟨k + 1, by omega, by go_num, hf6, hb6⟩
                  case measure => simp [intOf]; omega
              · obtain rfl : k = n := by omega
                have HF := Lib.hid hf; have HB := Lib.hid hbl
                clear hf hbl
                go_wp2_with fail
                go_roundw
                case rel => exact ⟨i + 1, d, by omega, by go_num, HF.out, HB.out⟩
                case measure => simp [intOf]; omega
          · have hpp : phaseG d b now = 1 := by simp [phaseG, hall]
            have hhd : heldG zs d = sm := by rw [← HSM.out]; exact hsum1 hall
            clear hsum1 hsum2
            go_wp2_with fail
            refine (phase_any _ _ _ _ _ HF3.out now).mono ?_
            rintro e w4 ⟨rfl, hb4⟩
            have HF4 := Lib.hid (HF3.out.later hb4); have HB4 := Lib.hid (HB3.out.trans (hb4.mono HB3.out.size))
            obtain ⟨x0, x1⟩ := start_cells HK.out HB4.out
            clear hb4 HF3 HB3
            rw [hpp]
            go_wp2_with fail
            refine (held_any _ _ _ _ _ HF4.out).mono ?_
            rintro e w' ⟨rfl, rfl⟩
            rw [hhd]
            go_wp2_with fail
            go_loopw [13] (fun kx wr => ∃ (k : Nat), k ≤ n ∧ kx = .int .i64 k ∧ FundAt wr ga zs d b ∧ Below w1.heap.size w1 wr) (fun kx _ => n - (intOf kx).toNat)
            case atStart => exact ⟨0, Nat.zero_le _, rfl, HF4.out, HB4.out⟩
            case round =>
              obtain ⟨k, hk, rfl, hf, hbl⟩ := hrel
              obtain ⟨f0, f1⟩ := start_cells HK.out hbl
              by_cases hlt : k < n
              · have k1 : k < zs.length := by have := HL.out; omega
                have k2 : k < d.length := by have := hf.ok.dl; omega
                obtain ⟨hp1, _⟩ := hf.ok.pos zs[k] (List.getElem_mem k1)
                have eg := given_at k1 k2
                obtain ⟨z, hz⟩ : ∃ z, zs[k] = z := ⟨_, rfl⟩
                have hz1 : decide (0 < z) = true := by simp; omega
                have hz2 : (z == 0) = false := by simp; omega
                rw [hz] at eg hp1
                have hE : backE zs d k = if d[k] = false then 9 else if d.all id then 10 else 0 := by simp [backE, has_true k1, k2]
                have hV : backV zs d k = if backE zs d k = 0 then z else 0 := by simp [backV, k1, hz]
                rw [hall] at hE
                have EG := Lib.hid eg; have HE := Lib.hid hE; have HV := Lib.hid hV; have HF := Lib.hid hf; have HB := Lib.hid hbl
                clear eg hE hV hf hbl
                cases hdk : d[k]
                · have hv : givenG zs d k = 0 := by rw [EG.out, hdk]; rfl
                  have he : backE zs d k = 9 := by rw [HE.out, hdk]; rfl
                  have hvv : backV zs d k = 0 := by rw [HV.out, he]; rfl
                  have HG := Lib.hid hv; have HE2 := Lib.hid he; have HV2 := Lib.hid hvv
                  clear hv he hvv
                  go_wp2_with fail
                  refine (clone_any _ _ _ _ _ HF.out).mono ?_
                  rintro e w5 ⟨rfl, ho5, hb5⟩
                  have HF5 := Lib.hid (HF.out.later hb5); have HO5 := Lib.hid ho5
                  have HB5 := Lib.hid (HB.out.trans (hb5.mono HB.out.size))
                  have hgo : w1.heap.size ≤ wr.heap.size := HB.out.size
                  have hgl := HF.out.lt
                  obtain ⟨go, hgo'⟩ : ∃ go, wr.heap.size = go := ⟨_, rfl⟩
                  rw [hgo'] at HO5 hgo hgl ⊢
                  clear ho5 hb5 hgo'
                  go_wp2_with fail
                  refine (given_any _ _ _ _ _ HF5.out k).mono ?_
                  rintro e w' ⟨rfl, rfl⟩
                  rw [HG.out]
                  go_wp2_with fail
                  have hq := back_any _ _ _ _ _ HO5.out k now
                  rw [HE2.out, HV2.out] at hq
                  refine hq.mono ?_
                  rintro e w6 ⟨rfl, _, hg6⟩
                  have hf6 := HF5.out.grown hg6 (by simp; omega)
                  have hb6 := below_only HB5.out hg6 HB5.out.size hgo
                  go_wp2_with fail
                  go_roundw
                  case rel => exact ⟨k + 1, by omega, by go_num, hf6, hb6⟩
                  case measure => simp [intOf]; omega
                · have hv : givenG zs d k = z := by rw [EG.out, hdk]; rfl
                  have he : backE zs d k = 10 := by rw [HE.out, hdk]; rfl
                  have hvv : backV zs d k = 0 := by rw [HV.out, he]; rfl
                  have HG := Lib.hid hv; have HE2 := Lib.hid he; have HV2 := Lib.hid hvv
                  clear hv he hvv
                  go_wp2_with fail
                  refine (clone_any _ _ _ _ _ HF.out).mono ?_
                  rintro e w5 ⟨rfl, ho5, hb5⟩
                  have HF5 := Lib.hid (HF.out.later hb5); have HO5 := Lib.hid ho5
                  have HB5 := Lib.hid (HB.out.trans (hb5.mono HB.out.size))
                  have hgo : w1.heap.size ≤ wr.heap.size := HB.out.size
                  have hgl := HF.out.lt
                  obtain ⟨go, hgo'⟩ : ∃ go, wr.heap.size = go := ⟨_, rfl⟩
                  rw [hgo'] at HO5 hgo hgl ⊢
                  clear ho5 hb5 hgo'
                  go_wp2_with fail
                  refine (given_any _ _ _ _ _ HF5.out k).mono ?_
                  rintro e w' ⟨rfl, rfl⟩
                  rw [HG.out]
                  go_wp2_with fail
                  have hq := back_any _ _ _ _ _ HO5.out k now
                  rw [HE2.out, HV2.out] at hq
                  refine hq.mono ?_
                  rintro e w6 ⟨rfl, _, hg6⟩
                  have hf6 := HF5.out.grown hg6 (by simp; omega)
                  have hb6 := below_only HB5.out hg6 HB5.out.size hgo
                  go_wp2_with fail
                  go_roundw
                  case rel => exact ⟨k + 1, by omega, by go_num, hf6, hb6⟩
                  case measure => simp [intOf]; omega
              · obtain rfl : k = n := by omega
                have HF := Lib.hid hf; have HB := Lib.hid hbl
                clear hf hbl
                go_wp2_with fail
                go_roundw
                case rel => exact ⟨i + 1, d, by omega, by go_num, HF.out, HB.out⟩
                case measure => simp [intOf]; omega
      · obtain rfl : i = n2 := by omega
        clear hf
        go_wp2_with fail
        refine (told_any _).mono ?_
        rintro e w7 ⟨rfl, hb7⟩
        have hbl7 := hbl.trans (hb7.mono hbl.size)
        go_wp2_with fail
        go_ret
        exact ⟨rfl, below_then hb1 hbl7⟩
end Go.Proofs.Ytfapechlnllfaab
