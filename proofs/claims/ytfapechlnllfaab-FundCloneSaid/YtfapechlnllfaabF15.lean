/- The document's fund (baizeref31): Back. -/
import Derived.Test.YtfapechlnllfaabF14
namespace Go.Proofs.Ytfapechlnllfaab
open Go.RowKit

set_option maxHeartbeats 800000 in
theorem rback_any (w : World) (A : Option Addr) (n c : Nat) (zs : List Int) (A2 : Option Addr) (c2 : Nat) (d : List Bool) (b : Int) (h : RF w A n zs A2 d b) (seat : Int) :
    Calls Try.prog 22 #[.agg #[.slice A n c, .slice A2 n c2, .int .i64 b], .int .i64 seat] w
      (RRet w A n c b A2 (backD zs d seat) (fun v => .returned (.tuple #[v, .int .i64 (backV zs d seat), .int .i64 (backE zs d seat)]))) := by
  have hn := h.s1.le
  have n8 : n ≤ 8 := by have := h.ok.n8; have := h.zl; omega
  have hzl := h.zl
  have hdl := h.dl
  obtain ⟨w1, hw1⟩ : ∃ w1, (w.alloc (.cells #[.slice A n c, .slice A2 n c2, .int .i64 b] 47)).alloc (.cells #[.slice none 0 0, .slice none 0 0, .int .i64 0] 47) = w1 := ⟨_, rfl⟩
  have hb1 : Below w.heap.size w w1 := hw1 ▸ (below_new w _).alloc (by simp) _
  have hkA : Bk w1 w.heap.size 47 [.slice A n c, .slice A2 n c2, .int .i64 b] := hw1 ▸ (Bk.new w _ #[.slice A n c, .slice A2 n c2, .int .i64 b]).alloc _
  have hkB : Bk w1 (w.heap.size + 1) 47 [.slice none 0 0, .slice none 0 0, .int .i64 0] := hw1 ▸ Bk.at_ _ _ #[.slice none 0 0, .slice none 0 0, .int .i64 0] (by simp) rfl
  have hz1 : w1.heap.size = w.heap.size + 1 + 1 := by rw [← hw1]; simp
  have s1 : Sl w1 w.heap.size 1 A n (zs.map (.int .i64)) := h.s1.below hb1
  have s2 : Sl w1 w.heap.size 1 A2 n (d.map .bool) := h.s2.below hb1
  have hfail : ∀ w', Below w.heap.size w w' → ∀ e, backE zs d seat = e → e ≠ 0 → RRet w A n c b A2 (backD zs d seat) (fun v => .returned (.tuple #[v, .int .i64 (backV zs d seat), .int .i64 (backE zs d seat)])) (.returned (.tuple #[.agg #[.slice A n c, .slice A2 n c2, .int .i64 b], .int .i64 0, .int .i64 e])) w' := by
    intro w' hb e he hne
    obtain ⟨hV, hD⟩ := back_not (l := zs) (d := d) (s := seat) (by rw [he]; exact hne)
    exact ⟨A2, c2, by rw [he, hV], by rw [hD]; exact h.s2.later hb, hb, fun _ h => .inl h⟩
  have HF := Lib.hid hfail; have S1 := Lib.hid s1; have S2 := Lib.hid s2; have HB1 := Lib.hid hb1
  have HW := Lib.hid hw1; have HKA := Lib.hid hkA; have HKB := Lib.hid hkB; have HZ1 := Lib.hid hz1
  have HR := Lib.hid (h.later hb1)
  clear h hfail s1 s2 hb1 hw1 hkA hkB hz1
  by_cases hs : hasB zs seat = true
  · obtain ⟨k, rfl, hi⟩ := has_of hs
    have hkn : k < n := by omega
    have k2 : k < d.length := by omega
    obtain ⟨ad, x, rfl, hb, hx, hc⟩ := S1.out.at_ hkn
    obtain ⟨ad2, y, rfl, hb2, hy, hc2⟩ := S2.out.atg hkn
    have hE : backE zs d k = if y = false then 9 else if d.all id then 10 else 0 := by
      simp [backE, hs, hy]
    have HE := Lib.hid hE; have HX := Lib.hid hx; have HY := Lib.hid hy
    have h0 : decide ((k : Int) < 0) = false := by simp
    have h1' : decide (n ≤ k) = false := by simp; omega
    clear hE hs hx hy hzl hdl
    cases y
    · have HE9 := Lib.hid (show backE zs d k = 9 by rw [HE.out]; rfl)
      rw [← HW.out] at hc hc2
      go_enter Try.func22, Try.ntmps22
      go_wp2_with fail
      refine bodyPost_ret (v := .tuple #[.agg #[.slice (some ad) n c, .slice (some ad2) n c2, .int .i64 b], .int .i64 0, .int .i64 9]) (by simp [results, Try.results22, go_sem]) rfl ?_
      exact HF.out _ (by repeat (first | exact Below.refl _ _ | refine Below.setCell ?_ (by simp) _ | refine Below.alloc ?_ (by simp) _)) 9 HE9.out (by decide)
    · obtain ⟨al, hal⟩ : ∃ al, d.all id = al := ⟨_, rfl⟩
      have HAL := Lib.hid hal
      rw [← HW.out] at hc hc2
      clear hal
      go_enter Try.func22, Try.ntmps22
      go_wp2_with fail
      rw [HW.out] at hc hc2 ⊢
      refine (rfull_any _ _ _ _ _ _ _ _ _ HR.out).mono ?_
      rintro e w2 ⟨rfl, hb2⟩
      rw [HAL.out]
      have HB2 := Lib.hid hb2
      obtain ⟨a0, a1, a2, af⟩ := three_cells (HKA.out.later hb2)
      obtain ⟨b0, b1, b2, bf⟩ := three_cells (HKB.out.later hb2)
      have hlt2 : w.heap.size + 1 < w2.heap.size := by have := hb2.size; rw [HZ1.out] at this; omega
      have hltA : w.heap.size < w2.heap.size := by omega
      have HBB := Lib.hid (HB1.out.trans (hb2.mono HB1.out.size))
      clear hc hc2 hb2
      cases al
      · have HE9 := Lib.hid (show backE zs d k = 0 by rw [HE.out, HAL.out]; rfl)
        have hV : backV zs d k = x := by rw [backV, if_pos HE9.out]; simp [HX.out]
        have HV := Lib.hid hV
        have HD := Lib.hid (show backD zs d k = d.set k false by rw [backD, if_pos HE9.out]; rfl)
        have hcs := (S1.out.below (HB2.out.mono (by rw [HZ1.out]; omega))).mem (by omega)
        obtain ⟨_, hAd, _, hcs⟩ := hcs
        injection hAd with hAd
        subst hAd
        have hcx := hcs k (.int .i64 x) (by simp [HX.out])
        have hbA : ad.block < w2.heap.size := by omega
        have S3 : Hid (Sl (w2.alloc (.cells #[] 4)) w.heap.size 1 (some ad2) n (d.map .bool)) := ((S2.out.below (HB2.out.mono (by rw [HZ1.out]; omega))).alloc (by omega) _)
        have HEm : Hid ((w2.alloc (.cells #[] 4)).ownsRow w2.heap.size 4 1 (.slice (some ⟨w2.heap.size, 0, none⟩) 0 0) 0 []) := own_empty_at rfl (Nat.le_refl _)
        have HKA2 := Lib.hid (HKA.out.later HB2.out); have HKB2 := Lib.hid (HKB.out.later HB2.out)
        obtain ⟨i0, hi, hz0, hz1', hz2⟩ := info_parts Try.infoBool
        clear hV hcs a0 a2 af b0 b1 b2 bf
        go_wp2_with (at_builtin; refine wpList_app _ rfl (.tmp 27) (.tmp 29) 45 rfl w2.heap.size 4 i0 (.bool false) 1 1 Try.underlying45 hi hz0 hz1' hz2 rfl (by decide) _ _ _ rfl HEm.out _ _ n c2 (d.map .bool) rfl S3.out (bools_one _) (by unfold maxLen; omega) (by omega) (by simp) ?_; intro v1 w3 hown1 hg1 hat1; rw [Nat.zero_add, List.nil_append] at hown1; obtain ⟨g1, cap1, rfl, hgb1, hglt1⟩ := hown1.form (by omega); have hb3 : Below w2.heap.size w2 w3 := (grown_below (below_new w2 _) HEm.out hg1 (Nat.le_refl _) (by simp)); clear hg1 hat1; have hst : w3.cell? ⟨g1, k, none⟩ = some (.bool true) := (by rw [hown1.cellAt k (by omega), List.getElem?_map, HY.out]; rfl); have hfs := hown1.frozenAt k; obtain ⟨a0, a1, a2, af⟩ := three_cells (HKA2.out.later hb3); obtain ⟨b0, b1, b2, bf⟩ := three_cells (HKB2.out.later hb3); have hneA : g1 ≠ w.heap.size := (by omega); have hneB : g1 ≠ w.heap.size + 1 := (by omega); have hneA' : w.heap.size ≠ g1 := (by omega); have hneB' : w.heap.size + 1 ≠ g1 := (by omega); have hlt3 : w.heap.size + 1 < w3.heap.size := (by omega); have HO1 := Lib.hid hown1; have HB3 := Lib.hid hb3; have hc3 : w3.cell? (ad.add k) = some (.int .i64 x) := (hb3.cell (by rw [add_block]; exact hbA)).trans hcx; clear hown1 hb3)
        obtain ⟨W, hW⟩ : ∃ W, (w3.setCell ⟨w.heap.size, 1, none⟩ (.slice (some ⟨g1, 0, none⟩) n cap1)).setCell ⟨g1, k, none⟩ (.bool false) = W := ⟨_, rfl⟩
        have kA : Bk W w.heap.size 47 [.slice (some ad) n c, .slice (some ⟨g1, 0, none⟩) n cap1, .int .i64 b] := hW ▸ ((HKA2.out.later HB3.out).set_ 1 _).far hneA' _
        have kB : Bk W (w.heap.size + 1) 47 [.slice none 0 0, .slice none 0 0, .int .i64 0] := hW ▸ ((HKB2.out.later HB3.out).far (p := ⟨w.heap.size, 1, none⟩) (by simp) _).far hneB' _
        have hsW : Below w.heap.size w W := hW ▸ ((HBB.out.trans (HB3.out.mono (by omega))).setCell (Nat.le_refl _) _).setCell (p := ⟨g1, k, none⟩) (by show _ ≤ g1; omega) _
        have hoW : W.ownsRow w2.heap.size 4 1 (.slice (some ⟨g1, 0, none⟩) n cap1) n ((d.map Value.bool).set k (.bool false)) := hW ▸ ((own_far HO1.out hneA' _).stored k (.bool false)).1
        have hcW : W.cell? (ad.add k) = some (.int .i64 x) := by
          rw [← hW, World.cell?_setCell_other _ _ _ _ (by intro e; have := congrArg Addr.block e; rw [add_block] at this; simp at this; omega), World.cell?_setCell_other _ _ _ _ (by intro e; have := congrArg Addr.block e; rw [add_block] at this; simp at this; omega)]
          exact hc3
        have hszW : w.heap.size + 1 < W.heap.size := kB.lt
        have hszA : w.heap.size < W.heap.size := kA.lt
        obtain ⟨e0, e1, e2, ef⟩ := three_cells kA
        obtain ⟨f0, f1, f2, ff⟩ := three_cells kB
        rw [hW]
        have HOW := Lib.hid hoW; have HSW := Lib.hid hsW
        clear hW kA kB hoW hsW hst hfs a0 a1 a2 af b0 b1 b2 bf hc3 hcx hneA hneB hneA' hneB' hlt3
        have hkn' : (k : Int) < n := by omega
        have hfar : ∀ (V : World) (i : Nat) (v : Value), (V.setCell ⟨w.heap.size + 1, i, none⟩ v).cell? (ad.add k) = V.cell? (ad.add k) := fun V i v => World.cell?_setCell_other _ _ _ _ (by intro e; have := congrArg Addr.block e; rw [add_block] at this; simp at this; omega)
        go_region
        go_wp2_with fail
        refine bodyPost_ret (v := .tuple #[.agg #[.slice (some ad) n c, .slice (some ⟨g1, 0, none⟩) n cap1, .int .i64 b], .int .i64 x, .int .i64 0]) (by simp [results, Try.results22, go_sem, f0, f1, f2]) rfl ?_
        refine ⟨some ⟨g1, 0, none⟩, cap1, by rw [HE9.out, HV.out], ?_, ?_, fun ad h => .inr (by injection h with h; subst h; show _ ≤ g1; omega)⟩
        · rw [HD.out, List.map_set]
          refine Sl.of_own (base := w2.heap.size) (e := 4) (c := cap1) ?_
          have ho := own_keep HOW.out (below_draws W _ 1)
          have hne : w.heap.size + 1 ≠ g1 := by omega
          exact own_far (own_far (own_far ho hne _) hne _) hne _
        · exact (((HSW.out.trans (below_draws W _ 1)).setCell (Nat.le_succ _) _).setCell (Nat.le_succ _) _).setCell (Nat.le_succ _) _
      · have HE9 := Lib.hid (show backE zs d k = 10 by rw [HE.out, HAL.out]; rfl)
        go_wp2_with fail
        refine bodyPost_ret (v := .tuple #[.agg #[.slice (some ad) n c, .slice (some ad2) n c2, .int .i64 b], .int .i64 0, .int .i64 10]) (by simp [results, Try.results22, go_sem, b0, b1, b2]) rfl ?_
        exact HF.out _ (((HBB.out.setCell (Nat.le_succ _) _).setCell (Nat.le_succ _) _).setCell (Nat.le_succ _) _) 10 HE9.out (by decide)
  · have hs' : hasB zs seat = false := by simpa using hs
    have HE := Lib.hid (show backE zs d seat = 28 by simp [backE, hs'])
    have hcase : seat < 0 ∨ decide (seat < 0) = false ∧ (n : Int) ≤ seat := by
      simp [hasB] at hs'; by_cases h0 : seat < 0
      · exact .inl h0
      · have := hs' (by omega); exact .inr ⟨by simp; omega, by omega⟩
    clear hs hs' hzl hdl
    rcases hcase with h0 | ⟨h0, h1⟩
    all_goals
      go_enter Try.func22, Try.ntmps22
      go_wp2_with fail
      refine bodyPost_ret (v := .tuple #[.agg #[.slice A n c, .slice A2 n c2, .int .i64 b], .int .i64 0, .int .i64 28]) (by simp [results, Try.results22, go_sem]) rfl ?_
      exact HF.out _ (by repeat (first | exact Below.refl _ _ | refine Below.setCell ?_ (by simp) _ | refine Below.alloc ?_ (by simp) _)) 28 HE.out (by decide)
end Go.Proofs.Ytfapechlnllfaab
