/- FundClone. -/
import Derived.Test.YtfapechlnllfaabF19
namespace Go.Proofs.Ytfapechlnllfaab
open Go.RowKit

theorem open_act {H : Type} {enc : TypeId × Value → H} {W : World} {v : Value} {d : DataW H} {p : List MemPlace} {r : Reach} {b0 : Nat} (hv : Value.okWide Try.prog W r b0 39 v)
    (h : DataW.Trod enc Try.prog W 0 (fun _ => true) true 39 v d p) : ∃ (xb : Bool) (xs xa xn : Int), v = .agg #[.bool xb, .int .i64 xs, .int .i64 xa, .int .i64 xn] ∧ True := by
  obtain ⟨c0, c1, c2, c3, y0, y1, y2, y3, m, rfl, _, _, h0, h1, h2, h3⟩ := Joins.open_agg4 Try.underlying39 (by kernel_rfl) (by kernel_rfl) hv h
  obtain ⟨z0, e0, _⟩ := DataW.trod_bool Try.underlying4 h0
  obtain ⟨z1, e1, _⟩ := DataW.trod_int Try.underlying3 h1
  obtain ⟨z2, e2, _⟩ := DataW.trod_int Try.underlying3 h2
  obtain ⟨z3, e3, _⟩ := DataW.trod_int Try.underlying3 h3
  simp at e0 e1 e2 e3
  subst e0 e1 e2 e3
  exact ⟨z0, z1, z2, z3, rfl, trivial⟩

theorem back_same {l : List Int} {d : List Bool} {b : Int} {s : Int} (ok : FundOk l d b) : fsameB l (backD l d s) b l d b = (backE l d s != 0) := by
  by_cases h : backE l d s = 0
  · obtain ⟨k, x, rfl, _, hd, _, hD⟩ := back_zero ok.dl h
    rw [h, hD]
    have : d.set k false ≠ d := fun e => by
      have h1 := congrArg (·[k]?) e
      obtain ⟨hl, hd'⟩ := List.getElem?_eq_some_iff.1 hd
      simp [hl] at h1
      rw [hd'] at h1; cases h1
    simp [fsameB, this]
  · obtain ⟨_, hD⟩ := back_not h
    rw [hD]; simp [fsameB, h]
theorem lay_same {l : List Int} {d : List Bool} {b s amt now : Int} (ok : FundOk l d b) : fsameB l (layD l d b s amt now) b l d b = (layE l d b s amt now != 0) := by
  by_cases h : layE l d b s amt now = 0
  · obtain ⟨k, rfl, _, hd, hD⟩ := lay_zero ok.dl h
    rw [h, hD]
    have : d.set k true ≠ d := fun e => by
      have h1 := congrArg (·[k]?) e
      obtain ⟨hl, hd'⟩ := List.getElem?_eq_some_iff.1 hd
      simp [hl] at h1
      rw [hd'] at h1; cases h1
    simp [fsameB, this]
  · rw [lay_not h]; simp [fsameB, h]

/-- Another fund has turned. -/
theorem ActsAt.apart {w1 w w' : World} {ga gB n c c2 go : Nat} {A A2 : Option Addr} {zs : List Int} {b : Int} {d : List Bool} (h : ActsAt w1 ga gB A n c zs b w d A2 c2) (hg : w.grownBy w' (some go)) (h1 : ga ≠ go) (h2 : gB ≠ go)
    (hA : ∀ ad, A = some ad → ad.block ≠ go) (hA2 : ∀ ad, A2 = some ad → ad.block ≠ go) (hw : w1.heap.size ≤ go) : ActsAt w1 ga gB A n c zs b w' d A2 c2 :=
  ⟨h.fund.grown hg (by simpa using h1), h.box.grown hg (by simpa using h2), ⟨sl_apart h.rf.s1 hg hA, sl_apart h.rf.s2 hg hA2, h.rf.ok, h.rf.zl⟩, below_only h.below hg h.below.size hw, h.a1, h.a2⟩

set_option maxRecDepth 20000 in
set_option maxHeartbeats 4000000 in
theorem law_FundClone (A : Option Addr) (n c : Nat) (zs : List Int) (b : Int) (A2 : Option Addr) (n2 c2 : Nat) (l : List Act4) (xb : Bool) (xs xa xn : Int) (w : World) (h : Sl w w.heap.size 1 A n (zs.map (.int .i64)))
    (h2 : Sl w w.heap.size 4 A2 n2 (l.flatMap actV)) (hl2 : l.length = n2) :
    Calls Try.prog 9 #[.agg #[.slice A n c, .int .i64 b], .slice A2 n2 c2, .agg #[.bool xb, .int .i64 xs, .int .i64 xa, .int .i64 xn]] w fun e w' => e = .returned (.bool true) ∧ Below w.heap.size w w' := by
  have hl := h.length
  have HL := Lib.hid hl; clear hl
  have hn2 := h2.le
  obtain ⟨w1, hw1⟩ : ∃ w1, (w.alloc (.cells #[.slice A n c, .int .i64 b] 24)).alloc (.cells #[.bool xb, .int .i64 xs, .int .i64 xa, .int .i64 xn] 39) = w1 := ⟨_, rfl⟩
  have hb1 : Below w.heap.size w w1 := hw1 ▸ (below_new _ _).alloc (by simp) _
  have hs1 := h.later hb1
  have ha1 := h2.later hb1
  have hk1 : Bk w1 w.heap.size 24 [.slice A n c, .int .i64 b] := hw1 ▸ (Bk.new w _ #[.slice A n c, .int .i64 b]).alloc _
  have hkX : Bk w1 (w.heap.size + 1) 39 [.bool xb, .int .i64 xs, .int .i64 xa, .int .i64 xn] := hw1 ▸ Bk.at_ _ _ #[.bool xb, .int .i64 xs, .int .i64 xa, .int .i64 xn] (by simp) rfl
  have HK := Lib.hid hk1; have HX := Lib.hid hkX
  have HS := Lib.hid hs1
  have HA := Lib.hid ha1
  have HL2 := Lib.hid hl2
  have HW := Lib.hid hw1
  obtain ⟨c0, c1⟩ := start_cells hk1 (Below.refl _ _)
  have hlt := hk1.lt
  clear h h2 hkX hk1 hs1 ha1 hw1 hl2
  by_cases h20 : (20 : Int) < n2
  · go_enter Try.func9, Try.ntmps9
    go_wp2_with fail
    rw [HW.out]
    refine (told_any _).mono ?_
    rintro e w' ⟨rfl, hbt⟩
    go_wp2_with fail
    go_ret
    exact ⟨rfl, below_then hb1 hbt⟩
  have h20' : decide ((20 : Int) < n2) = false := by simp; omega
  go_enter Try.func9, Try.ntmps9
  go_wp2_with fail
  rw [HW.out]
  refine (new_any _ _ _ _ _ _ HS.out).mono ?_
  rintro e w2 (⟨hne, rfl, rfl⟩ | ⟨hz, rfl, hfa, hbw⟩)
  · have hk : (newE zs b == 0) = false := by simpa using hne
    have hk' : (newE zs b != 0) = true := by simpa using hne
    go_wp2_with fail
    refine (rnew_bad _ _ _ _ _ _ HS.out hne).mono ?_
    rintro e w3 ⟨rfl, hb3⟩
    have hb3' := below_then hb1 hb3
    clear hne
    go_wp2_with fail
    refine (told_any _).mono ?_
    rintro e w4 ⟨rfl, hbt⟩
    go_wp2_with fail
    go_ret
    exact ⟨rfl, below_then hb3' (below_then (below_new _ _) hbt)⟩
  · obtain ⟨ok, _, _, _⟩ := new_ok_of hz
    have n2' := ok.n2
    have n8 := ok.n8
    rw [HL.out] at n2' n8
    obtain ⟨ga, hga⟩ : ∃ ga, w1.heap.size = ga := ⟨_, rfl⟩
    have hgl := hfa.lt
    rw [hga] at hfa hlt hgl ⊢
    rw [HL.out] at hfa
    obtain ⟨d0, d1⟩ := start_cells HK.out hbw
    have hga' : w1.heap.size ≤ ga := by omega
    have HFA := Lib.hid hfa; have HBW := Lib.hid hbw; have HZ := Lib.hid hz; have HGA := Lib.hid hga
    clear hfa hbw c0 c1 hz ok hga
    go_wp2_with fail
    refine (rnew_ok _ _ _ _ _ _ (HS.out.later HBW.out) HZ.out).mono ?_
    rintro e w3 ⟨Ar, cr, A2r, c2r, rfl, hrf, hb3, hra, hra2⟩
    obtain ⟨gB, hgB⟩ : ∃ gB, w3.heap.size = gB := ⟨_, rfl⟩
    have hgBa : gB ≠ ga := by have := hb3.size; omega
    have hgB1 : w1.heap.size ≤ gB := by have := hb3.size; have := HBW.out.size; omega
    have hacts : ActsAt w1 ga gB Ar n cr zs b (w3.alloc (.cells #[.slice Ar n cr, .slice A2r n c2r, .int .i64 b] 47)) (List.replicate n false) A2r c2r := by
      refine ⟨(HFA.out.later hb3).later (below_new _ _), Bk.at_ _ _ #[.slice Ar n cr, .slice A2r n c2r, .int .i64 b] hgB rfl, hrf.later (below_new _ _), (HBW.out.trans (hb3.mono HBW.out.size)).trans ((below_new _ _).mono (by have := HBW.out.size; have := hb3.size; omega)), fun ad h => ?_, fun ad h => ?_⟩
      · have := hra ad h; have hs := (hrf.s1.mem (by omega)); obtain ⟨x, hx, hxb, _⟩ := hs; rw [h] at hx; injection hx with hx; subst hx; omega
      · have := hra2 ad h; have hs := (hrf.s2.mem (by omega)); obtain ⟨x, hx, hxb, _⟩ := hs; rw [h] at hx; injection hx with hx; subst hx; omega
    have HAC := Lib.hid hacts
    clear hacts hrf hra hra2 hb3 d0 d1
    go_wp2_with fail
    obtain ⟨wS, hwS⟩ : ∃ wS, w3.alloc (.cells #[.slice Ar n cr, .slice A2r n c2r, .int .i64 b] 47) = wS := ⟨_, rfl⟩
    rw [hwS] at HAC ⊢
    clear hwS hgB
    go_loopw [11] (fun ix wr => ∃ (i : Nat) (d : List Bool) (Ax : Option Addr) (cx : Nat), i ≤ n2 ∧ ix = .int .i64 i ∧ ActsAt w1 ga gB Ar n cr zs b wr d Ax cx) (fun ix _ => n2 - (intOf ix).toNat)
    case atStart => exact ⟨0, _, _, _, Nat.zero_le _, rfl, HAC.out⟩
    case round =>
      obtain ⟨i, dq, Ax, cx, hi, rfl, hac⟩ := hrel
      by_cases hlt : i < n2
      · obtain ⟨ab, ao, ⟨pb, ps, pa, pn⟩, rfl, hab, hx, b0, b1, b2, b3⟩ := act_at HA.out HL2.out hlt
        simp only at b0 b1 b2 b3
        have a0 := act_keep hac.below hab b0
        have a1 := act_keep hac.below hab b1
        have a2 := act_keep hac.below hab b2
        have a3 := act_keep hac.below hab b3
        have B0 := Lib.hid b0; have B1 := Lib.hid b1; have B2 := Lib.hid b2; have B3 := Lib.hid b3; have HKP := Lib.hid hac
        have xne : ab ≠ gB := by omega
        have xne' : gB ≠ ab := by omega
        clear hac hx b0 b1 b2 b3 HAC
        cases pb
        · go_wp2_with fail
          go_still_tail 16, (by kernel_rfl)
          change wpList _ _ _ _ _ wr.drew
          go_wp2_with fail
          refine (lay_any _ _ _ _ _ (HKP.out.drew.fund) ps pa pn).mono ?_
          rintro e w4 ⟨rfl, hf4, hg4⟩
          have hh := HKP.out.drew.step hf4 hg4 hga' hgBa
          have HH := Lib.hid hh
          obtain ⟨x0, x1, x2, xf⟩ := three_cells hh.box
          have a1 := act_keep hh.below hab B1.out
          have a2 := act_keep hh.below hab B2.out
          have a3 := act_keep hh.below hab B3.out
          have hbl := hh.box.lt
          obtain ⟨ld, hld⟩ : ∃ ld, layD zs dq b ps pa pn = ld := ⟨_, rfl⟩
          rw [hld] at HH
          have HLD := Lib.hid hld
          clear hf4 hg4 hh hld
          go_wp2_with fail
          go_region_law (first
            | (go_simp; go_at_call 23; refine (rlay_any _ Ar n cr zs Ax cx dq b (HH.out.later (below_draws w4 _ 1)).rf ps pa pn).mono ?_; rintro e w5 ⟨A2', c2', rfl, hrl⟩; rw [HLD.out] at hrl; have hh5 := (HH.out.later (below_draws w4 _ 1)).next hrl; obtain ⟨z0, z1, z2, zf⟩ := three_cells hh5.box; have zlt := hh5.box.lt; have hS5 : w5.cell? ⟨ab, ao + i * 4 + 1, none⟩ = some (.int .i64 ps) ∧ w5.cell? ⟨ab, ao + i * 4 + 2, none⟩ = some (.int .i64 pa) ∧ w5.cell? ⟨ab, ao + i * 4 + 3, none⟩ = some (.int .i64 pn) := ⟨act_keep hh5.below hab B1.out, act_keep hh5.below hab B2.out, act_keep hh5.below hab B3.out⟩; have RLH := Lib.hid hrl; have HN5 := Lib.hid hh5; clear hh5 hrl))
          all_goals
            go_wp2_with fail
            go_roundw
            case rel => exact ⟨i + 1, _, _, _, by omega, by go_num, HN5.out.acts hgBa hgB1⟩
            case measure => simp [intOf]; omega
        · go_wp2_with fail
          go_still_tail 11, (by kernel_rfl)
          change wpList _ _ _ _ _ wr.drew
          go_wp2_with fail
          refine (back_any _ _ _ _ _ (HKP.out.drew.fund) ps pn).mono ?_
          rintro e w4 ⟨rfl, hf4, hg4⟩
          have hh := HKP.out.drew.step hf4 hg4 hga' hgBa
          have HH := Lib.hid hh
          obtain ⟨x0, x1, x2, xf⟩ := three_cells hh.box
          have a1 := act_keep hh.below hab B1.out
          have hbl := hh.box.lt
          obtain ⟨ld, hld⟩ : ∃ ld, backD zs dq ps = ld := ⟨_, rfl⟩
          rw [hld] at HH
          have HLD := Lib.hid hld
          clear hf4 hg4 hh hld
          go_wp2_with fail
          go_region_law (first
            | (go_simp; go_at_call 22; refine (rback_any _ Ar n cr zs Ax cx dq b (HH.out.later (below_draws w4 _ 1)).rf ps).mono ?_; rintro e w5 ⟨A2', c2', rfl, hrl⟩; rw [HLD.out] at hrl; have hh5 := (HH.out.later (below_draws w4 _ 1)).next hrl; obtain ⟨z0, z1, z2, zf⟩ := three_cells hh5.box; have zlt := hh5.box.lt; have hS5 : w5.cell? ⟨ab, ao + i * 4 + 1, none⟩ = some (.int .i64 ps) := act_keep hh5.below hab B1.out; have RLH := Lib.hid hrl; have HN5 := Lib.hid hh5; clear hh5 hrl))
          all_goals
            go_wp2_with fail
            go_roundw
            case rel => exact ⟨i + 1, _, _, _, by omega, by go_num, HN5.out.acts hgBa hgB1⟩
            case measure => simp [intOf]; omega
      · obtain rfl : i = n2 := by omega
        have HAC2 := Lib.hid hac
        clear hac HAC
        go_wp2_with fail
        refine (clone_any _ _ _ _ _ HAC2.out.fund).mono ?_
        rintro e w5 ⟨rfl, ho5, hb5⟩
        have hgl5 := HAC2.out.fund.lt
        have hgB5 := HAC2.out.box.lt
        have hsz5 := HAC2.out.below.size
        obtain ⟨go, hgo⟩ : ∃ go, wr.heap.size = go := ⟨_, rfl⟩
        rw [hgo] at ho5 hgl5 hgB5 hsz5 ⊢
        obtain ⟨hra, hra2⟩ := rf_apart HAC2.out.rf (by omega) (q := go) (by omega)
        have hgo1 : w1.heap.size ≤ go := by omega
        have HA5 := Lib.hid (HAC2.out.later hb5); have HO5 := Lib.hid ho5
        clear ho5 hb5 hgo
        go_wp2_with fail
        refine (fsame_any _ _ _ _ _ _ _ _ _ HO5.out HA5.out.fund).mono ?_
        rintro e w6 ⟨rfl, q6, rfl⟩
        rw [show fsameB zs dq b zs dq b = true by simp [fsameB]]
        go_wp2_with fail
        refine (fsame_any _ _ _ _ _ _ _ _ _ (HA5.out.fund.drewN q6) (HO5.out.drewN q6)).mono ?_
        rintro e w7 ⟨rfl, q7, rfl⟩
        rw [show fsameB zs dq b zs dq b = true by simp [fsameB]]
        rw [World.drewN_drewN]
        obtain ⟨w8, hw8⟩ : ∃ w8, w5.drewN (q6 + q7) = w8 := ⟨_, rfl⟩
        rw [hw8]
        have HA8 : Hid (ActsAt w1 ga gB Ar n cr zs b w8 dq Ax cx) := hw8 ▸ HA5.out.later (below_draws _ _ _)
        have HO8 : Hid (FundAt w8 go zs dq b) := hw8 ▸ HO5.out.drewN _
        clear hw8 HA5 HO5
        have hxb := HX.out.later HA8.out.below
        obtain ⟨e0, e1, e2, e3⟩ : w8.cell? ⟨w.heap.size + 1, 0, none⟩ = some (.bool xb) ∧ w8.cell? ⟨w.heap.size + 1, 1, none⟩ = some (.int .i64 xs) ∧ w8.cell? ⟨w.heap.size + 1, 2, none⟩ = some (.int .i64 xa) ∧ w8.cell? ⟨w.heap.size + 1, 3, none⟩ = some (.int .i64 xn) := ⟨hxb.cell 0, hxb.cell 1, hxb.cell 2, hxb.cell 3⟩
        clear hxb
        cases xb
        · go_wp2_with fail
          refine (lay_any _ _ _ _ _ HO8.out xs xa xn).mono ?_
          rintro e w9 ⟨rfl, hf9, hg9⟩
          have hap := HA8.out.apart hg9 (by omega) (by omega) hra hra2 hgo1
          have HF9 := Lib.hid hf9; have HA9 := Lib.hid hap
          clear hf9 hg9 hap
          have hsm := lay_same HA8.out.fund.ok (l := zs) (d := dq) (b := b) (s := xs) (amt := xa) (now := xn)
          have HSM := Lib.hid hsm
          clear hsm
          go_wp2_with fail
          refine (fsame_any _ _ _ _ _ _ _ _ _ HF9.out HA9.out.fund).mono ?_
          rintro e w10 ⟨rfl, q10, rfl⟩
          rw [HSM.out]
          have HA10 := Lib.hid (HA9.out.later (below_draws _ _ q10))
          obtain ⟨x0, x1, x2, xf⟩ := three_cells HA10.out.box
          go_wp2_with fail
          refine (same31_any _ ga zs dq b HA10.out.fund Ar n cr Ax cx HA10.out.rf 0).mono ?_
          rintro e w11 ⟨rfl, hb11⟩
          have hbl11 := HA10.out.below.trans (hb11.mono HA10.out.below.size)
          clear x0 x1 x2 xf
          go_wp2_with fail
          refine (told_any _).mono ?_
          rintro e w12 ⟨rfl, hb12⟩
          have hbl12 := hbl11.trans (hb12.mono hbl11.size)
          go_wp2_with fail
          go_ret
          exact ⟨rfl, below_then hb1 hbl12⟩
        · go_wp2_with fail
          refine (back_any _ _ _ _ _ HO8.out xs xn).mono ?_
          rintro e w9 ⟨rfl, hf9, hg9⟩
          have hap := HA8.out.apart hg9 (by omega) (by omega) hra hra2 hgo1
          have HF9 := Lib.hid hf9; have HA9 := Lib.hid hap
          clear hf9 hg9 hap
          have hsm := back_same HA8.out.fund.ok (l := zs) (d := dq) (b := b) (s := xs)
          have HSM := Lib.hid hsm
          clear hsm
          go_wp2_with fail
          refine (fsame_any _ _ _ _ _ _ _ _ _ HF9.out HA9.out.fund).mono ?_
          rintro e w10 ⟨rfl, q10, rfl⟩
          rw [HSM.out]
          have HA10 := Lib.hid (HA9.out.later (below_draws _ _ q10))
          obtain ⟨x0, x1, x2, xf⟩ := three_cells HA10.out.box
          go_wp2_with fail
          refine (same31_any _ ga zs dq b HA10.out.fund Ar n cr Ax cx HA10.out.rf 0).mono ?_
          rintro e w11 ⟨rfl, hb11⟩
          have hbl11 := HA10.out.below.trans (hb11.mono HA10.out.below.size)
          clear x0 x1 x2 xf
          go_wp2_with fail
          refine (told_any _).mono ?_
          rintro e w12 ⟨rfl, hb12⟩
          have hbl12 := hbl11.trans (hb12.mono hbl11.size)
          go_wp2_with fail
          go_ret
          exact ⟨rfl, below_then hb1 hbl12⟩
theorem law_FundClone' (A : Option Addr) (n c : Nat) (zs : List Int) (b : Int) (A2 : Option Addr) (n2 c2 : Nat) (l : List Act4) (xb : Bool) (xs xa xn : Int) (w : World) (h : Sl w w.heap.size 1 A n (zs.map (.int .i64)) ∧ ∀ z ∈ zs, (Lit.int .i64 z).wf = true)
    (h2 : l.length = n2 ∧ Sl w w.heap.size 4 A2 n2 (l.flatMap actV) ∧ ∀ p ∈ l, (Lit.int .i64 p.2.1).wf = true ∧ (Lit.int .i64 p.2.2.1).wf = true ∧ (Lit.int .i64 p.2.2.2).wf = true) (_ : True) :
    Calls Try.prog 9 #[.agg #[.slice A n c, .int .i64 b], .slice A2 n2 c2, .agg #[.bool xb, .int .i64 xs, .int .i64 xa, .int .i64 xn]] w fun e w' => e = .returned (.bool true) ∧ Below w.heap.size w w' :=
  law_FundClone A n c zs b A2 n2 c2 l xb xs xa xn w h.1 h2.2.1 h2.1
end Go.Proofs.Ytfapechlnllfaab
