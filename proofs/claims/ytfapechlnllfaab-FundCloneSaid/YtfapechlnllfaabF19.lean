/- FundActs. -/
import Derived.Test.YtfapechlnllfaabF18
import Derived.Test.YtfapechlnllfaabFA
namespace Go.Proofs.Ytfapechlnllfaab
open Go.RowKit

/-- A slice that lies apart from the one block that turns. -/
theorem sl_apart {w w' : World} {size n ga : Nat} {A : Option Addr} {xs : List Value} (h : Sl w w.heap.size size A n xs) (hg : w.grownBy w' (some ga)) (ha : ∀ ad, A = some ad → ad.block ≠ ga) : Sl w' w'.heap.size size A n xs :=
  ⟨h.len, h.le, fun hn => by
    obtain ⟨ad, e, hb, hc⟩ := h.mem hn
    exact ⟨ad, e, Nat.lt_of_lt_of_le hb hg.size, fun j u hu => (World.cell?_of_block (hg.block _ (by rw [add_block]; exact hb) (by rw [add_block]; intro h; injection h with h; exact ha ad e h))).trans (hc j u hu)⟩⟩

theorem sl_put {w : World} {size n q i : Nat} {A : Option Addr} {xs : List Value} (h : Sl w w.heap.size size A n xs) (ha : ∀ ad, A = some ad → ad.block ≠ q) (v : Value) :
    Sl (w.setCell ⟨q, i, none⟩ v) (w.setCell ⟨q, i, none⟩ v).heap.size size A n xs :=
  sl_apart h (only_set (only_refl w q) i v) ha
structure ActsAt (w1 : World) (ga gB : Nat) (A : Option Addr) (n c : Nat) (zs : List Int) (b : Int) (w : World) (d : List Bool) (A2 : Option Addr) (c2 : Nat) : Prop where
  fund : FundAt w ga zs d b
  box : Bk w gB 47 [.slice A n c, .slice A2 n c2, .int .i64 b]
  rf : RF w A n zs A2 d b
  below : Below w1.heap.size w1 w
  a1 : ∀ ad, A = some ad → ad.block ≠ ga ∧ ad.block ≠ gB
  a2 : ∀ ad, A2 = some ad → ad.block ≠ ga ∧ ad.block ≠ gB
/-- The program's fund has turned; the document's has not yet. -/
structure HalfAt (w1 : World) (ga gB : Nat) (A : Option Addr) (n c : Nat) (zs : List Int) (b : Int) (w : World) (d d' : List Bool) (A2 : Option Addr) (c2 : Nat) : Prop where
  fund : FundAt w ga zs d' b
  box : Bk w gB 47 [.slice A n c, .slice A2 n c2, .int .i64 b]
  rf : RF w A n zs A2 d b
  below : Below w1.heap.size w1 w
  a1 : ∀ ad, A = some ad → ad.block ≠ ga ∧ ad.block ≠ gB
  a2 : ∀ ad, A2 = some ad → ad.block ≠ ga ∧ ad.block ≠ gB
/-- Both have turned; the document's is not stored yet. -/
structure NextAt (w1 : World) (ga gB : Nat) (A : Option Addr) (n c : Nat) (zs : List Int) (b : Int) (w : World) (d : List Bool) (A2 : Option Addr) (v : Value) : Prop where
  fund : FundAt w ga zs d b
  box : Bk w gB 47 [.slice A n c, v, .int .i64 b]
  rf : RF w A n zs A2 d b
  below : Below w1.heap.size w1 w
  a1 : ∀ ad, A = some ad → ad.block ≠ ga ∧ ad.block ≠ gB
  a2 : ∀ ad, A2 = some ad → ad.block ≠ ga ∧ ad.block ≠ gB
section
variable {w1 w w' : World} {ga gB n c c2 : Nat} {A A2 A2' : Option Addr} {zs : List Int} {b : Int} {d d' : List Bool} {v : Value}
theorem ActsAt.later (h : ActsAt w1 ga gB A n c zs b w d A2 c2) (hb : Below w.heap.size w w') : ActsAt w1 ga gB A n c zs b w' d A2 c2 :=
  ⟨h.fund.later hb, h.box.later hb, h.rf.later hb, h.below.trans (hb.mono h.below.size), h.a1, h.a2⟩
theorem ActsAt.drew (h : ActsAt w1 ga gB A n c zs b w d A2 c2) : ActsAt w1 ga gB A n c zs b w.drew d A2 c2 := h.later (below_draws w _ 1)
theorem ActsAt.step (h : ActsAt w1 ga gB A n c zs b w d A2 c2) (hf : FundAt w' ga zs d' b) (hg : w.grownBy w' (some ga)) (h1 : w1.heap.size ≤ ga) (hne : gB ≠ ga) : HalfAt w1 ga gB A n c zs b w' d d' A2 c2 :=
  ⟨hf, h.box.grown hg (by simpa using hne), ⟨sl_apart h.rf.s1 hg fun ad e => (h.a1 ad e).1, sl_apart h.rf.s2 hg fun ad e => (h.a2 ad e).1, h.rf.ok, h.rf.zl⟩, below_only h.below hg h.below.size h1, h.a1, h.a2⟩
theorem HalfAt.later (h : HalfAt w1 ga gB A n c zs b w d d' A2 c2) (hb : Below w.heap.size w w') : HalfAt w1 ga gB A n c zs b w' d d' A2 c2 :=
  ⟨h.fund.later hb, h.box.later hb, h.rf.later hb, h.below.trans (hb.mono h.below.size), h.a1, h.a2⟩
theorem HalfAt.next (h : HalfAt w1 ga gB A n c zs b w d d' A2 c2) (hr : RL w w' A2 A2' n d') : NextAt w1 ga gB A n c zs b w' d' A2' (.slice A2 n c2) := by
  have hl := h.later hr.2.1
  refine ⟨hl.fund, hl.box, ⟨hl.rf.s1, hr.1, hl.fund.ok, hl.rf.zl⟩, hl.below, h.a1, fun ad e => ?_⟩
  rcases hr.2.2 ad e with e2 | e2
  · exact h.a2 ad e2
  · have := h.fund.lt; have := h.box.lt; omega
theorem NextAt.later (h : NextAt w1 ga gB A n c zs b w d A2 v) (hb : Below w.heap.size w w') : NextAt w1 ga gB A n c zs b w' d A2 v :=
  ⟨h.fund.later hb, h.box.later hb, h.rf.later hb, h.below.trans (hb.mono h.below.size), h.a1, h.a2⟩
/-- A store into a block apart. -/
theorem NextAt.put (h : NextAt w1 ga gB A n c zs b w d A2 v) {q i : Nat} {u : Value} (ha : q ≠ ga) (hB : q ≠ gB) (h1 : ∀ ad, A = some ad → ad.block ≠ q) (h2 : ∀ ad, A2 = some ad → ad.block ≠ q) (hw : w1.heap.size ≤ q) :
    NextAt w1 ga gB A n c zs b (w.setCell ⟨q, i, none⟩ u) d A2 v :=
  ⟨⟨h.fund.bk.far (Ne.symm ha) _, h.fund.ok⟩, h.box.far (Ne.symm hB) _, ⟨sl_put h.rf.s1 h1 _, sl_put h.rf.s2 h2 _, h.rf.ok, h.rf.zl⟩, h.below.setCell hw _, h.a1, h.a2⟩
theorem NextAt.acts {c2' : Nat} (h : NextAt w1 ga gB A n c zs b w d A2 v) (hne : gB ≠ ga) (h1 : w1.heap.size ≤ gB) :
    ActsAt w1 ga gB A n c zs b (((w.setCell ⟨gB, 0, none⟩ (.slice A n c)).setCell ⟨gB, 1, none⟩ (.slice A2 n c2')).setCell ⟨gB, 2, none⟩ (.int .i64 b)) d A2 c2' :=
  ⟨⟨((h.fund.bk.far (Ne.symm hne) _).far (Ne.symm hne) _).far (Ne.symm hne) _, h.fund.ok⟩, ((h.box.set_ 0 _).set_ 1 _).set_ 2 _,
    ⟨sl_put (sl_put (sl_put h.rf.s1 (fun ad e => (h.a1 ad e).2) _) (fun ad e => (h.a1 ad e).2) _) (fun ad e => (h.a1 ad e).2) _,
     sl_put (sl_put (sl_put h.rf.s2 (fun ad e => (h.a2 ad e).2) _) (fun ad e => (h.a2 ad e).2) _) (fun ad e => (h.a2 ad e).2) _, h.rf.ok, h.rf.zl⟩,
    ((h.below.setCell h1 _).setCell h1 _).setCell h1 _, h.a1, h.a2⟩
/-- The block that was made for the answer, ahead of the call, is filled. -/
theorem NextAt.fill {wz : World} {q : Nat} (h : NextAt w1 ga gB A n c zs b w' d A2' v) (hq : q < wz.heap.size) (ha : q ≠ ga) (hB : q ≠ gB) (hA : ∀ ad, A = some ad → ad.block ≠ q) (hA2 : ∀ ad, A2 = some ad → ad.block ≠ q)
    (hr : RL wz w' A2 A2' n d) (hw : w1.heap.size ≤ q) (u0 u1 u2 : Value) :
    NextAt w1 ga gB A n c zs b (((w'.setCell ⟨q, 0, none⟩ u0).setCell ⟨q, 1, none⟩ u1).setCell ⟨q, 2, none⟩ u2) d A2' v := by
  have h2 : ∀ ad, A2' = some ad → ad.block ≠ q := fun ad e => by
    rcases hr.2.2 ad e with e2 | e2
    · exact hA2 ad e2
    · omega
  exact ((h.put ha hB hA h2 hw).put ha hB hA h2 hw).put ha hB hA h2 hw
theorem rf_apart {q : Nat} (h : RF w A n zs A2 d b) (hn : 0 < n) (hq : w.heap.size ≤ q) : (∀ ad, A = some ad → ad.block ≠ q) ∧ (∀ ad, A2 = some ad → ad.block ≠ q) := by
  obtain ⟨a, rfl, h1, _⟩ := h.s1.mem hn
  obtain ⟨a', rfl, h2, _⟩ := h.s2.mem hn
  exact ⟨fun ad e => by injection e with e; subst e; omega, fun ad e => by injection e with e; subst e; omega⟩
theorem act_keep' {w1 w : World} (hb : Below w1.heap.size w1 w) {ab : Nat} (hab : ab < w1.heap.size) {o : Nat} {v : Value} (h : w1.cell? ⟨ab, o, none⟩ = some v) : w.cell? ⟨ab, o, none⟩ = some v := act_keep hb hab h
end

set_option maxRecDepth 20000 in
set_option maxHeartbeats 4000000 in
theorem law_FundActs (A : Option Addr) (n c : Nat) (zs : List Int) (b : Int) (A2 : Option Addr) (n2 c2 : Nat) (l : List Act4) (now : Int) (w : World) (h : Sl w w.heap.size 1 A n (zs.map (.int .i64)))
    (h2 : Sl w w.heap.size 4 A2 n2 (l.flatMap actV)) (hl2 : l.length = n2) :
    Calls Try.prog 7 #[.agg #[.slice A n c, .int .i64 b], .slice A2 n2 c2, .int .i64 now] w fun e w' => e = .returned (.bool true) ∧ Below w.heap.size w w' := by
  have hl := h.length
  have HL := Lib.hid hl; clear hl
  have hn2 := h2.le
  obtain ⟨w1, hw1⟩ : ∃ w1, w.alloc (.cells #[.slice A n c, .int .i64 b] 24) = w1 := ⟨_, rfl⟩
  have hb1 : Below w.heap.size w w1 := hw1 ▸ below_new _ _
  have hs1 := h.later hb1
  have ha1 := h2.later hb1
  have hk1 : Bk w1 w.heap.size 24 [.slice A n c, .int .i64 b] := hw1 ▸ Bk.new w _ #[.slice A n c, .int .i64 b]
  have HK := Lib.hid hk1
  have HS := Lib.hid hs1
  have HA := Lib.hid ha1
  have HL2 := Lib.hid hl2
  have HW := Lib.hid hw1
  obtain ⟨c0, c1⟩ := start_cells hk1 (Below.refl _ _)
  have hlt := hk1.lt
  clear h h2 hk1 hs1 ha1 hw1 hl2
  by_cases h40 : (40 : Int) < n2
  · go_enter Try.func7, Try.ntmps7
    go_wp2_with fail
    rw [HW.out]
    refine (told_any _).mono ?_
    rintro e w' ⟨rfl, hbt⟩
    go_wp2_with fail
    go_ret
    exact ⟨rfl, below_then hb1 hbt⟩
  have h40' : decide ((40 : Int) < n2) = false := by simp; omega
  go_enter Try.func7, Try.ntmps7
  go_wp2_with fail
  rw [HW.out]
  refine (new_any _ _ _ _ _ _ HS.out).mono ?_
  rintro e w2 (⟨hne, rfl, rfl⟩ | ⟨hz, rfl, hfa, hbw⟩)
  · have hk : (newE zs b == 0) = false := by simpa using hne
    have hk' : (newE zs b != 0) = true := by simpa using hne
    go_wp2_with fail
    refine (rnew_bad _ _ _ _ _ _ HS.out hne).mono ?_
    rintro e w3 ⟨rfl, hb3⟩
    have hb3' := below_then hb1 hb3
    clear hne
    go_wp2_with fail
    refine (told_any _).mono ?_
    rintro e w4 ⟨rfl, hbt⟩
    go_wp2_with fail
    go_ret
    exact ⟨rfl, below_then hb3' (below_then (below_new _ _) hbt)⟩
  · obtain ⟨ok, _, _, _⟩ := new_ok_of hz
    have n2' := ok.n2
    have n8 := ok.n8
    rw [HL.out] at n2' n8
    obtain ⟨ga, hga⟩ : ∃ ga, w1.heap.size = ga := ⟨_, rfl⟩
    have hgl := hfa.lt
    rw [hga] at hfa hlt hgl ⊢
    rw [HL.out] at hfa
    obtain ⟨d0, d1⟩ := start_cells HK.out hbw
    have hga' : w1.heap.size ≤ ga := by omega
    have HFA := Lib.hid hfa; have HBW := Lib.hid hbw; have HZ := Lib.hid hz; have HGA := Lib.hid hga
    clear hfa hbw c0 c1 hz ok hga
    go_wp2_with fail
    refine (rnew_ok _ _ _ _ _ _ (HS.out.later HBW.out) HZ.out).mono ?_
    rintro e w3 ⟨Ar, cr, A2r, c2r, rfl, hrf, hb3, hra, hra2⟩
    obtain ⟨gB, hgB⟩ : ∃ gB, w3.heap.size = gB := ⟨_, rfl⟩
    have hgBa : gB ≠ ga := by have := hb3.size; omega
    have hgB1 : w1.heap.size ≤ gB := by have := hb3.size; have := HBW.out.size; omega
    have hacts : ActsAt w1 ga gB Ar n cr zs b (w3.alloc (.cells #[.slice Ar n cr, .slice A2r n c2r, .int .i64 b] 47)) (List.replicate n false) A2r c2r := by
      refine ⟨(HFA.out.later hb3).later (below_new _ _), Bk.at_ _ _ #[.slice Ar n cr, .slice A2r n c2r, .int .i64 b] hgB rfl, hrf.later (below_new _ _), (HBW.out.trans (hb3.mono HBW.out.size)).trans ((below_new _ _).mono (by have := HBW.out.size; have := hb3.size; omega)), fun ad h => ?_, fun ad h => ?_⟩
      · have := hra ad h; have hs := (hrf.s1.mem (by omega)); obtain ⟨x, hx, hxb, _⟩ := hs; rw [h] at hx; injection hx with hx; subst hx; omega
      · have := hra2 ad h; have hs := (hrf.s2.mem (by omega)); obtain ⟨x, hx, hxb, _⟩ := hs; rw [h] at hx; injection hx with hx; subst hx; omega
    have HAC := Lib.hid hacts
    clear hacts hrf hra hra2 hb3 d0 d1
    go_wp2_with fail
    obtain ⟨wS, hwS⟩ : ∃ wS, w3.alloc (.cells #[.slice Ar n cr, .slice A2r n c2r, .int .i64 b] 47) = wS := ⟨_, rfl⟩
    rw [hwS] at HAC ⊢
    clear hwS hgB
    go_loopw [11] (fun ix wr => ∃ (i : Nat) (d : List Bool) (Ax : Option Addr) (cx : Nat), i ≤ n2 ∧ ix = .int .i64 i ∧ ActsAt w1 ga gB Ar n cr zs b wr d Ax cx) (fun ix _ => n2 - (intOf ix).toNat)
    case atStart => exact ⟨0, _, _, _, Nat.zero_le _, rfl, HAC.out⟩
    case round =>
      obtain ⟨i, dq, Ax, cx, hi, rfl, hac⟩ := hrel
      by_cases hlt : i < n2
      · obtain ⟨ab, ao, ⟨pb, ps, pa, pn⟩, rfl, hab, hx, b0, b1, b2, b3⟩ := act_at HA.out HL2.out hlt
        simp only at b0 b1 b2 b3
        have a0 := act_keep hac.below hab b0
        have a1 := act_keep hac.below hab b1
        have a2 := act_keep hac.below hab b2
        have a3 := act_keep hac.below hab b3
        have B0 := Lib.hid b0; have B1 := Lib.hid b1; have B2 := Lib.hid b2; have B3 := Lib.hid b3; have HKP := Lib.hid hac
        clear hac hx b0 b1 b2 b3 HAC
        go_upto_if 63 with fail
        go_cut [9] (fun s wx => s = .pointer (some ⟨gB, 0, none⟩) ∧ ∃ d Ax cx, ActsAt w1 ga gB Ar n cr zs b wx d Ax cx)
        case first =>
          cases pb
          · go_wp2_with fail
            go_still_tail 16, (by kernel_rfl)
            change wpList _ _ _ _ _ wr.drew
            go_wp2_with fail
            refine (lay_any _ _ _ _ _ (HKP.out.drew.fund) ps pa pn).mono ?_
            rintro e w4 ⟨rfl, hf4, hg4⟩
            have hh := HKP.out.drew.step hf4 hg4 hga' hgBa
            have HH := Lib.hid hh
            have hbx := three_cells hh.box
            obtain ⟨x0, x1, x2, xf⟩ := hbx
            have a1 := act_keep hh.below hab B1.out
            have a2 := act_keep hh.below hab B2.out
            have a3 := act_keep hh.below hab B3.out
            have hbl := hh.box.lt
            obtain ⟨le, hle⟩ : ∃ le, layE zs dq b ps pa pn = le := ⟨_, rfl⟩
            obtain ⟨ld, hld⟩ : ∃ ld, layD zs dq b ps pa pn = ld := ⟨_, rfl⟩
            rw [hle]
            rw [hld] at HH
            have HLE := Lib.hid hle; have HLD := Lib.hid hld
            clear hf4 hg4 hh hle hld
            go_wp2_with fail
            go_region_held3 (fun w' => w'.cell? ⟨gB, 0, none⟩ = some (.slice Ar n cr) ∧ w'.cell? ⟨gB, 1, none⟩ = some (.slice Ax n cx) ∧ w'.cell? ⟨gB, 2, none⟩ = some (.int .i64 b) ∧ w'.cell? ⟨ab, ao + i * 4 + 1, none⟩ = some (.int .i64 ps) ∧ w'.cell? ⟨ab, ao + i * 4 + 2, none⟩ = some (.int .i64 pa) ∧ w'.cell? ⟨ab, ao + i * 4 + 3, none⟩ = some (.int .i64 pn)) (first | go_keep | assumption)
              (first
                | (go_at_call 23; refine (rlay_any _ Ar n cr zs Ax cx dq b (HH.out.later (below_draws w4 _ 1)).rf ps pa pn).mono ?_; rintro e w5 ⟨A2', c2', rfl, hrl⟩; rw [HLE.out]; rw [HLD.out] at hrl; have hh5 := (HH.out.later (below_draws w4 _ 1)).next hrl; obtain ⟨z0, z1, z2, zf⟩ := three_cells hh5.box; have zlt := hh5.box.lt; have hS5 : w5.cell? ⟨gB, 0, none⟩ = some (.slice Ar n cr) ∧ w5.cell? ⟨gB, 1, none⟩ = some (.slice Ax n cx) ∧ w5.cell? ⟨gB, 2, none⟩ = some (.int .i64 b) ∧ w5.cell? ⟨ab, ao + i * 4 + 1, none⟩ = some (.int .i64 ps) ∧ w5.cell? ⟨ab, ao + i * 4 + 2, none⟩ = some (.int .i64 pa) ∧ w5.cell? ⟨ab, ao + i * 4 + 3, none⟩ = some (.int .i64 pn) := ⟨z0, z1, z2, act_keep hh5.below hab B1.out, act_keep hh5.below hab B2.out, act_keep hh5.below hab B3.out⟩;  have RLH := Lib.hid hrl; have HN5 := Lib.hid hh5; clear hh5 hrl)
                | (go_at_call 23; refine (rlay_any _ Ar n cr zs Ax cx dq b (HH.out.later ((below_new w4 (.cells #[.slice none 0 0, .slice none 0 0, .int .i64 0] 47)).trans (below_draws _ _ 1))).rf ps pa pn).mono ?_; rintro e w5 ⟨A2', c2', rfl, hrl⟩; rw [HLE.out]; rw [HLD.out] at hrl; have hh5 := (HH.out.later ((below_new w4 (.cells #[.slice none 0 0, .slice none 0 0, .int .i64 0] 47)).trans (below_draws _ _ 1))).next hrl; obtain ⟨z0, z1, z2, zf⟩ := three_cells hh5.box; have zlt := hh5.box.lt; have hS5 : w5.cell? ⟨gB, 0, none⟩ = some (.slice Ar n cr) ∧ w5.cell? ⟨gB, 1, none⟩ = some (.slice Ax n cx) ∧ w5.cell? ⟨gB, 2, none⟩ = some (.int .i64 b) ∧ w5.cell? ⟨ab, ao + i * 4 + 1, none⟩ = some (.int .i64 ps) ∧ w5.cell? ⟨ab, ao + i * 4 + 2, none⟩ = some (.int .i64 pa) ∧ w5.cell? ⟨ab, ao + i * 4 + 3, none⟩ = some (.int .i64 pn) := ⟨z0, z1, z2, act_keep hh5.below hab B1.out, act_keep hh5.below hab B2.out, act_keep hh5.below hab B3.out⟩; have hbq : Bk w5 w4.heap.size 47 [.slice none 0 0, .slice none 0 0, .int .i64 0] := (Bk.later ((Bk.new w4 _ #[.slice none 0 0, .slice none 0 0, .int .i64 0]).drew) hrl.2.1); obtain ⟨y0, y1, y2, yf⟩ := three_cells hbq; have ylt := hbq.lt; have yne : w4.heap.size ≠ gB := (by omega); have xne : ab ≠ w4.heap.size := (by have := HH.out.below.size; omega); have xne' : w4.heap.size ≠ ab := (by omega); have yne' : gB ≠ w4.heap.size := (by omega); have RLH := Lib.hid hrl; have HN5 := Lib.hid hh5; clear hh5 hrl))
            all_goals
              go_wp2_with fail
              go_meet
              go_light
            · exact ⟨rfl, _, _, _, (HN5.out.acts hgBa hgB1).later (below_new _ _)⟩
            · obtain ⟨ra, ra2⟩ := rf_apart HH.out.rf (by omega) (Nat.le_refl _)
              exact ⟨rfl, _, _, _, (HN5.out.fill (by simp) (by have := HH.out.fund.lt; omega) yne ra ra2 RLH.out HH.out.below.size _ _ _).acts hgBa hgB1⟩
          · go_wp2_with fail
            go_region_held3 (fun w' => w'.cell? ⟨ab, ao + i * 4 + 1, none⟩ = some (.int .i64 ps) ∧ w'.cell? ⟨ab, ao + i * 4 + 3, none⟩ = some (.int .i64 pn)) (first | go_keep | (exact ⟨act_keep hb4 hab B1.out, act_keep hb4 hab B3.out⟩))
              (first
                | (go_at_call 18; refine (back_any wr.drew ga zs dq b (HKP.out.drew.fund) ps pn).mono ?_; rintro e w4 ⟨rfl, hf4, hg4⟩; have hb4 : Below w1.heap.size w1 w4 := below_only HKP.out.drew.below hg4 HKP.out.below.size hga'))
            have hh := HKP.out.drew.step hf4 hg4 hga' hgBa
            have HH := Lib.hid hh
            have hbx := three_cells hh.box
            obtain ⟨x0, x1, x2, xf⟩ := hbx
            have a1 := act_keep hh.below hab B1.out
            have hbl := hh.box.lt
            obtain ⟨le, hle⟩ : ∃ le, backE zs dq ps = le := ⟨_, rfl⟩
            obtain ⟨lv, hlv⟩ : ∃ lv, backV zs dq ps = lv := ⟨_, rfl⟩
            obtain ⟨ld, hld⟩ : ∃ ld, backD zs dq ps = ld := ⟨_, rfl⟩
            rw [hle, hlv]
            rw [hld] at HH
            have HLE := Lib.hid hle; have HLD := Lib.hid hld; have HLV := Lib.hid hlv
            clear hf4 hg4 hh hle hld hlv hb4
            go_wp2_with fail
            go_region_held3 (fun w' => w'.cell? ⟨gB, 0, none⟩ = some (.slice Ar n cr) ∧ w'.cell? ⟨gB, 1, none⟩ = some (.slice Ax n cx) ∧ w'.cell? ⟨gB, 2, none⟩ = some (.int .i64 b) ∧ w'.cell? ⟨ab, ao + i * 4 + 1, none⟩ = some (.int .i64 ps)) (first | go_keep | assumption)
              (first
                | (go_at_call 22; refine (rback_any _ Ar n cr zs Ax cx dq b (HH.out.later (below_draws w4 _ 1)).rf ps).mono ?_; rintro e w5 ⟨A2', c2', rfl, hrl⟩; rw [HLE.out, HLV.out]; rw [HLD.out] at hrl; have hh5 := (HH.out.later (below_draws w4 _ 1)).next hrl; obtain ⟨z0, z1, z2, zf⟩ := three_cells hh5.box; have zlt := hh5.box.lt; have hS5 : w5.cell? ⟨gB, 0, none⟩ = some (.slice Ar n cr) ∧ w5.cell? ⟨gB, 1, none⟩ = some (.slice Ax n cx) ∧ w5.cell? ⟨gB, 2, none⟩ = some (.int .i64 b) ∧ w5.cell? ⟨ab, ao + i * 4 + 1, none⟩ = some (.int .i64 ps) := ⟨z0, z1, z2, act_keep hh5.below hab B1.out⟩;  have RLH := Lib.hid hrl; have HN5 := Lib.hid hh5; clear hh5 hrl)
                | (go_at_call 22; refine (rback_any _ Ar n cr zs Ax cx dq b (HH.out.later ((below_new w4 (.cells #[.slice none 0 0, .slice none 0 0, .int .i64 0] 47)).trans (below_draws _ _ 1))).rf ps).mono ?_; rintro e w5 ⟨A2', c2', rfl, hrl⟩; rw [HLE.out, HLV.out]; rw [HLD.out] at hrl; have hh5 := (HH.out.later ((below_new w4 (.cells #[.slice none 0 0, .slice none 0 0, .int .i64 0] 47)).trans (below_draws _ _ 1))).next hrl; obtain ⟨z0, z1, z2, zf⟩ := three_cells hh5.box; have zlt := hh5.box.lt; have hS5 : w5.cell? ⟨gB, 0, none⟩ = some (.slice Ar n cr) ∧ w5.cell? ⟨gB, 1, none⟩ = some (.slice Ax n cx) ∧ w5.cell? ⟨gB, 2, none⟩ = some (.int .i64 b) ∧ w5.cell? ⟨ab, ao + i * 4 + 1, none⟩ = some (.int .i64 ps) := ⟨z0, z1, z2, act_keep hh5.below hab B1.out⟩; have hbq : Bk w5 w4.heap.size 47 [.slice none 0 0, .slice none 0 0, .int .i64 0] := (Bk.later ((Bk.new w4 _ #[.slice none 0 0, .slice none 0 0, .int .i64 0]).drew) hrl.2.1); obtain ⟨y0, y1, y2, yf⟩ := three_cells hbq; have ylt := hbq.lt; have yne : w4.heap.size ≠ gB := (by omega); have xne : ab ≠ w4.heap.size := (by have := HH.out.below.size; omega); have xne' : w4.heap.size ≠ ab := (by omega); have yne' : gB ≠ w4.heap.size := (by omega); have RLH := Lib.hid hrl; have HN5 := Lib.hid hh5; clear hh5 hrl))
            all_goals
              go_wp2_with fail
              go_meet
              go_light
            · exact ⟨rfl, _, _, _, (HN5.out.acts hgBa hgB1).later (below_new _ _)⟩
            · obtain ⟨ra, ra2⟩ := rf_apart HH.out.rf (by omega) (Nat.le_refl _)
              exact ⟨rfl, _, _, _, (HN5.out.fill (by simp) (by have := HH.out.fund.lt; omega) yne ra ra2 RLH.out HH.out.below.size _ _ _).acts hgBa hgB1⟩
        obtain ⟨rfl, d, Ax2, cx2, hac⟩ := hcut
        have HAC := Lib.hid hac
        obtain ⟨x0, x1, x2, xf⟩ := three_cells hac.box
        have y3 := act_keep hac.below hab B3.out
        have hbl := hac.box.lt
        have tok1 : True := trivial
        clear hac
        go_wp2_with fail
        go_region_held3 (fun w' => w'.cell? ⟨gB, 0, none⟩ = some (.slice Ar n cr) ∧ w'.cell? ⟨gB, 1, none⟩ = some (.slice Ax2 n cx2) ∧ w'.cell? ⟨gB, 2, none⟩ = some (.int .i64 b) ∧ w'.cell? ⟨ab, ao + i * 4 + 3, none⟩ = some (.int .i64 pn)) (first | go_keep | assumption)
          (first
            | (go_at_call 24; have _t := tok1; refine (same31_any (wc.drewN 1) ga zs d b (HAC.out.later (below_draws wc _ 1)).fund Ar n cr Ax2 cx2 (HAC.out.later (below_draws wc _ 1)).rf now).mono ?_; clear tok1; rintro e w6 ⟨rfl, hb6⟩; have HA6 := Lib.hid ((HAC.out.later (below_draws wc _ 1)).later hb6); obtain ⟨z0, z1, z2, zf⟩ := three_cells HA6.out.box; have z3 := act_keep HA6.out.below hab B3.out; have hS6 : w6.cell? ⟨gB, 0, none⟩ = some (.slice Ar n cr) ∧ w6.cell? ⟨gB, 1, none⟩ = some (.slice Ax2 n cx2) ∧ w6.cell? ⟨gB, 2, none⟩ = some (.int .i64 b) ∧ w6.cell? ⟨ab, ao + i * 4 + 3, none⟩ = some (.int .i64 pn) := ⟨z0, z1, z2, z3⟩; clear hb6)
            | (go_at_call 24; refine (same31_any w6 ga zs d b HA6.out.fund Ar n cr Ax2 cx2 HA6.out.rf pn).mono ?_; rintro e w7 ⟨rfl, hb7⟩; have HA7 := Lib.hid (HA6.out.later hb7); obtain ⟨v0, v1, v2, vf⟩ := three_cells HA7.out.box; have v3 := act_keep HA7.out.below hab B3.out; have hS7 : w7.cell? ⟨gB, 0, none⟩ = some (.slice Ar n cr) ∧ w7.cell? ⟨gB, 1, none⟩ = some (.slice Ax2 n cx2) ∧ w7.cell? ⟨gB, 2, none⟩ = some (.int .i64 b) ∧ w7.cell? ⟨ab, ao + i * 4 + 3, none⟩ = some (.int .i64 pn) := ⟨v0, v1, v2, v3⟩; clear hb7))
        go_wp2_with fail
        go_roundw
        case rel => exact ⟨i + 1, _, _, _, by omega, by go_num, HA7.out⟩
        case measure => simp [intOf]; omega
      · obtain rfl : i = n2 := by omega
        have HAC2 := Lib.hid hac
        obtain ⟨x0, x1, x2, xf⟩ := three_cells hac.box
        clear hac HAC
        go_wp2_with fail
        refine (same31_any wr ga zs dq b HAC2.out.fund Ar n cr Ax cx HAC2.out.rf now).mono ?_
        rintro e w6 ⟨rfl, hb6⟩
        have HA6 := Lib.hid (HAC2.out.later hb6)
        clear hb6
        go_wp2_with fail
        refine (told_any _).mono ?_
        rintro e w7 ⟨rfl, hb7⟩
        have hbl7 := HA6.out.below.trans (hb7.mono HA6.out.below.size)
        go_wp2_with fail
        go_ret
        exact ⟨rfl, below_then hb1 hbl7⟩
theorem law_FundActs' (A : Option Addr) (n c : Nat) (zs : List Int) (b : Int) (A2 : Option Addr) (n2 c2 : Nat) (l : List Act4) (now : Int) (w : World) (h : Sl w w.heap.size 1 A n (zs.map (.int .i64)) ∧ ∀ z ∈ zs, (Lit.int .i64 z).wf = true)
    (h2 : l.length = n2 ∧ Sl w w.heap.size 4 A2 n2 (l.flatMap actV) ∧ ∀ p ∈ l, (Lit.int .i64 p.2.1).wf = true ∧ (Lit.int .i64 p.2.2.1).wf = true ∧ (Lit.int .i64 p.2.2.2).wf = true) (_ : (Lit.int .i64 now).wf = true) :
    Calls Try.prog 7 #[.agg #[.slice A n c, .int .i64 b], .slice A2 n2 c2, .int .i64 now] w fun e w' => e = .returned (.bool true) ∧ Below w.heap.size w w' :=
  law_FundActs A n c zs b A2 n2 c2 l now w h.1 h2.2.1 h2.1
end Go.Proofs.Ytfapechlnllfaab
