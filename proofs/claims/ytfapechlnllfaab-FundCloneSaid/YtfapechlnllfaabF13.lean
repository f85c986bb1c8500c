/- The document's fund (baizeref31): Full, Phase, Given, Held. -/
import Derived.Test.YtfapechlnllfaabF12
import Derived.Deep.OwnRows
namespace Go.Proofs.Ytfapechlnllfaab
open Go.RowKit

/-- The document's fund, where its slices lie. -/
structure RF (w : World) (A : Option Addr) (n : Nat) (zs : List Int) (A2 : Option Addr) (d : List Bool) (b : Int) : Prop where
  s1 : Sl w w.heap.size 1 A n (zs.map (.int .i64))
  s2 : Sl w w.heap.size 1 A2 n (d.map .bool)
  ok : FundOk zs d b
  zl : zs.length = n
section
variable {w w' : World} {A A2 : Option Addr} {n : Nat} {zs : List Int} {d : List Bool} {b : Int}
theorem RF.later (h : RF w A n zs A2 d b) (hb : Below w.heap.size w w') : RF w' A n zs A2 d b := ⟨h.s1.later hb, h.s2.later hb, h.ok, h.zl⟩
theorem RF.dl (h : RF w A n zs A2 d b) : d.length = n := h.ok.dl.trans h.zl
end

theorem rfull_any (w : World) (A : Option Addr) (n c : Nat) (zs : List Int) (A2 : Option Addr) (c2 : Nat) (d : List Bool) (b : Int) (h : RF w A n zs A2 d b) :
    Calls Try.prog 31 #[.agg #[.slice A n c, .slice A2 n c2, .int .i64 b]] w fun e w' => e = .returned (.bool (d.all id)) ∧ Below w.heap.size w w' := by
  have hn := h.s1.le
  have hdl := Lib.hid h.dl
  have hb1 := below_new w (.cells #[.slice A n c, .slice A2 n c2, .int .i64 b] 47)
  have s2 := h.s2.alloc (Nat.le_refl _) (.cells #[.slice A n c, .slice A2 n c2, .int .i64 b] 47)
  have S2 := Lib.hid s2
  clear h s2
  go_enter Try.func31, Try.ntmps31
  go_wp2_with fail
  go_loop [3] (fun i => ∃ (k : Nat), k ≤ n ∧ i = .int .i64 k ∧ Hid ((d.drop k).all id = d.all id)) (fun i => n - (intOf i).toNat)
  case atStart => exact ⟨0, Nat.zero_le _, rfl, rfl⟩
  case round =>
    obtain ⟨k, hk, rfl, hs⟩ := hrel
    by_cases hlt : k < n
    · obtain ⟨ad, z, rfl, hb, hz, hc⟩ := S2.out.atg hlt
      have e1 := hs.out; rw [drop_cons hz, List.all_cons] at e1
      have E1 := Lib.hid e1; clear e1 hz
      cases z
      · go_wp2_with fail
        go_ret
        go_light
        exact ⟨by rw [← E1.out]; rfl, hb1⟩
      · go_wp2_with fail
        go_round
        case rel => exact ⟨k + 1, by omega, by go_num, by have := E1.out; show _ = _; rw [← this]; rfl⟩
        case measure => simp [intOf]; omega
    · go_wp2_with fail
      go_ret
      go_light
      have e1 := hs.out
      rw [List.drop_eq_nil_of_le (by have := hdl.out; omega)] at e1
      exact ⟨by rw [← e1]; rfl, hb1⟩

theorem rphase_any (w : World) (A : Option Addr) (n c : Nat) (zs : List Int) (A2 : Option Addr) (c2 : Nat) (d : List Bool) (b : Int) (h : RF w A n zs A2 d b) (now : Int) :
    Calls Try.prog 32 #[.agg #[.slice A n c, .slice A2 n c2, .int .i64 b], .int .i64 now] w fun e w' => e = .returned (.int .i64 (phaseG d b now)) ∧ Below w.heap.size w w' := by
  obtain ⟨w1, hw1⟩ : ∃ w1, w.alloc (.cells #[.slice A n c, .slice A2 n c2, .int .i64 b] 47) = w1 := ⟨_, rfl⟩
  have hb1 : Below w.heap.size w w1 := hw1 ▸ below_new _ _
  have hk1 : Bk w1 w.heap.size 47 [.slice A n c, .slice A2 n c2, .int .i64 b] := hw1 ▸ Bk.new w _ #[.slice A n c, .slice A2 n c2, .int .i64 b]
  have HR := Lib.hid (h.later hb1)
  have HK := Lib.hid hk1; have HW := Lib.hid hw1
  clear h hk1 hw1
  go_enter Try.func32, Try.ntmps32
  go_wp2_with fail
  rw [HW.out]
  refine (rfull_any _ _ _ _ _ _ _ _ _ HR.out).mono ?_
  rintro e w2 ⟨rfl, hb2⟩
  have c2 := ((HK.out.later hb2).cell 2)
  simp only [List.getElem?_cons_succ, List.getElem?_cons_zero] at c2
  have hbb := below_then hb1 hb2
  clear HR hb1 hb2
  go_wp2_with fail
  all_goals go_ret
  all_goals go_light
  all_goals exact ⟨by simp_all [phaseG], hbb⟩

theorem rgiven_any (w : World) (A : Option Addr) (n c : Nat) (zs : List Int) (A2 : Option Addr) (c2 : Nat) (d : List Bool) (b : Int) (h : RF w A n zs A2 d b) (seat : Int) :
    Calls Try.prog 34 #[.agg #[.slice A n c, .slice A2 n c2, .int .i64 b], .int .i64 seat] w fun e w' => e = .returned (.int .i64 (givenG zs d seat)) ∧ Below w.heap.size w w' := by
  have hn := h.s1.le
  have hzl := h.zl
  have hdl := h.dl
  have hb1 := below_new w (.cells #[.slice A n c, .slice A2 n c2, .int .i64 b] 47)
  have s1 := h.s1.alloc (Nat.le_refl _) (.cells #[.slice A n c, .slice A2 n c2, .int .i64 b] 47)
  have s2 := h.s2.alloc (Nat.le_refl _) (.cells #[.slice A n c, .slice A2 n c2, .int .i64 b] 47)
  clear h
  by_cases hs : hasB zs seat = true
  · obtain ⟨i, rfl, hi⟩ := has_of hs
    have hi1 : i < n := by omega
    have k2 : i < d.length := by omega
    have hg := given_at hi k2
    obtain ⟨ad, z, rfl, hb, hz, hc⟩ := s1.at_ hi1
    obtain ⟨ad2, y, rfl, hb2, hy, hc2⟩ := s2.atg hi1
    rw [List.getElem?_eq_getElem hi] at hz
    rw [List.getElem?_eq_getElem k2] at hy
    injection hz with hz; injection hy with hy
    rw [hz, hy] at hg
    have HG := Lib.hid hg
    clear hg hz hy hzl hdl s1 s2 hs
    have h0 : decide ((i : Int) < 0) = false := by simp
    have h1 : decide (n ≤ i) = false := by simp; omega
    cases y
    all_goals
      go_enter Try.func34, Try.ntmps34
      go_wp2_with fail
      go_ret
      go_light
      exact ⟨by rw [HG.out]; rfl, hb1⟩
  · have hs' : hasB zs seat = false := by simpa using hs
    have HE := Lib.hid (show givenG zs d seat = 0 by simp [givenG, hs'])
    by_cases h0 : seat < 0
    · clear hs hs'
      go_enter Try.func34, Try.ntmps34
      go_wp2_with fail
      go_ret
      go_light
      exact ⟨by rw [HE.out]; rfl, hb1⟩
    · have h1 : (n : Int) ≤ seat := by simp [hasB] at hs'; have := hs' (by omega); omega
      have h0' : decide (seat < 0) = false := by simp; omega
      clear hs hs'
      go_enter Try.func34, Try.ntmps34
      go_wp2_with fail
      go_ret
      go_light
      exact ⟨by rw [HE.out]; rfl, hb1⟩

theorem rheld_any (w : World) (A : Option Addr) (n c : Nat) (zs : List Int) (A2 : Option Addr) (c2 : Nat) (d : List Bool) (b : Int) (h : RF w A n zs A2 d b) :
    Calls Try.prog 33 #[.agg #[.slice A n c, .slice A2 n c2, .int .i64 b]] w fun e w' => e = .returned (.int .i64 (heldG zs d)) ∧ Below w.heap.size w w' := by
  have hn := h.s1.le
  have n8 : n ≤ 8 := by have := h.ok.n8; have := h.zl; omega
  have hok := h.ok
  have hdl := h.dl
  have hzl := h.zl
  obtain ⟨w1, hw1⟩ : ∃ w1, w.alloc (.cells #[.slice A n c, .slice A2 n c2, .int .i64 b] 47) = w1 := ⟨_, rfl⟩
  have hb1 : Below w.heap.size w w1 := hw1 ▸ below_new _ _
  have hk1 : Bk w1 w.heap.size 47 [.slice A n c, .slice A2 n c2, .int .i64 b] := hw1 ▸ Bk.new w _ #[.slice A n c, .slice A2 n c2, .int .i64 b]
  have HR := Lib.hid (h.later hb1)
  have HK := Lib.hid hk1; have HW := Lib.hid hw1; have HOK := Lib.hid hok; have HD := Lib.hid hdl; have HZ := Lib.hid hzl
  clear h hk1 hw1 hok hdl hzl
  go_enter Try.func33, Try.ntmps33
  go_wp2_with fail
  rw [HW.out]
  go_loopw [3, 4] (fun s i wr => ∃ (k : Nat) (sv : Int), k ≤ n ∧ i = .int .i64 k ∧ s = .int .i64 sv ∧ 0 ≤ sv ∧ sv ≤ 1125899906842624 * (k : Int) ∧ Hid (sv + heldG (zs.drop k) (d.drop k) = heldG zs d) ∧ Below w1.heap.size w1 wr) (fun _ i _ => n - (intOf i).toNat)
  case atStart => exact ⟨0, 0, Nat.zero_le _, rfl, rfl, by omega, by omega, by show _ = _; simp, Below.refl _ _⟩
  case round =>
    obtain ⟨k, sv, hk, rfl, rfl, hs1, hs2, hs, hbl⟩ := hrel
    have c0 := ((HK.out.later hbl).cell 0)
    have c1 := ((HK.out.later hbl).cell 1)
    have c2 := ((HK.out.later hbl).cell 2)
    simp only [List.getElem?_cons_succ, List.getElem?_cons_zero] at c0 c1 c2
    have HB := Lib.hid hbl; clear hbl
    by_cases hlt : k < n
    · have k1 : k < zs.length := by have := HZ.out; omega
      have k2 : k < d.length := by have := HD.out; omega
      have e1 := hs.out
      rw [drop_cons (List.getElem?_eq_getElem k1), drop_cons (List.getElem?_eq_getElem k2)] at e1
      simp only [heldG] at e1
      obtain ⟨p1, p2⟩ := HOK.out.pos zs[k] (List.getElem_mem k1)
      have eg := given_at k1 k2
      obtain ⟨v, hv⟩ : ∃ v, v = (if d[k] then zs[k] else 0) := ⟨_, rfl⟩
      have v0 : 0 ≤ v ∧ v ≤ 1125899906842624 := by rw [hv]; split <;> omega
      obtain ⟨v1, v2⟩ := v0
      rw [← hv] at e1 eg
      have E1 := Lib.hid e1; have EG := Lib.hid eg; clear e1 eg hv p1 p2 k1 k2
      go_wp2_with fail
      refine (rgiven_any _ _ _ _ _ _ _ _ _ (HR.out.later HB.out) _).mono ?_
      rintro e w2 ⟨rfl, hb2⟩
      rw [EG.out]
      have hbb := HB.out.trans (hb2.mono HB.out.size)
      clear hb2
      go_wp2_with fail
      go_roundw
      case rel => exact ⟨k + 1, sv + v, by omega, by go_num, rfl, by omega, by omega, by have := E1.out; show _ = _; omega, hbb⟩
      case measure => simp [intOf]; omega
    · go_wp2_with fail
      go_ret
      go_light
      have e1 := hs.out
      rw [List.drop_eq_nil_of_le (by have := HZ.out; omega)] at e1
      exact ⟨by rw [← e1]; simp [heldG], below_then hb1 HB.out⟩
end Go.Proofs.Ytfapechlnllfaab
