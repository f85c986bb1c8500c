/- Lists of digests, compared. -/
import Derived.Test.YtimcjldehememaaDoorT7
namespace Go.Proofs.YtimcjldehememaaDoor
open Go.RowKit

set_option maxRecDepth 20000 in
theorem rSame_any (w : World) (A A' : Option Addr) (n n' c c' : Nat) (ls ms : List (List Int)) (ho : DsOk ls) (ho' : DsOk ms) (hs : Sl w w.heap.size 8 A n (cellsD ls)) (hs' : Sl w w.heap.size 8 A' n' (cellsD ms)) :
    Calls Tryd.prog 20 #[.slice A n c, .slice A' n' c'] w fun e w' => e = .returned (.bool (eqD ls ms)) ∧ ∃ q, w' = w.drewN q := by
  have hl := hs.dgs ho
  have hl' := hs'.dgs ho'
  have hn := hs.le
  have hn' := hs'.le
  by_cases hnn : n = n'
  · subst hnn
    have HS := Lib.hid hs; have HS' := Lib.hid hs'; have HO := Lib.hid ho; have HO' := Lib.hid ho'; have HL := Lib.hid hl; have HL' := Lib.hid hl'
    clear hs hs' ho ho' hl hl'
    go_enter Tryd.func20, Tryd.ntmps20
    go_wp2_with fail
    go_loopw [5] (fun is wr => ∃ (i q : Nat), i ≤ n ∧ is = .int .i64 i ∧ wr = w.drewN q ∧ Hid (ls.take i = ms.take i)) (fun is _ => n - (intOf is).toNat)
    case atStart => exact ⟨0, 0, by omega, rfl, rfl, by show _ = _; simp⟩
    case round =>
      obtain ⟨i, q, hi, rfl, rfl, HT⟩ := hrel
      by_cases hlt : i < n
      · obtain ⟨b, o, rfl, hbb, _⟩ := HS.out.spot (by omega) (by omega)
        obtain ⟨b', o', rfl, hbb', _⟩ := HS'.out.spot (by omega) (by omega)
        obtain ⟨x, hx⟩ : ∃ x, ls[i]? = some x := ⟨ls[i]'(by rw [HL.out]; exact hlt), List.getElem?_eq_getElem _⟩
        obtain ⟨y, hy⟩ : ∃ y, ms[i]? = some y := ⟨ms[i]'(by rw [HL'.out]; exact hlt), List.getElem?_eq_getElem _⟩
        have hxo := HO.out x (List.mem_of_getElem? hx)
        have hyo := HO'.out y (List.mem_of_getElem? hy)
        obtain ⟨a0, a1, a2, a3, a4, a5, a6, a7, rfl⟩ := list8 x hxo.len
        obtain ⟨b0, b1, b2, b3, b4, b5, b6, b7, rfl⟩ := list8 y hyo.len
        obtain ⟨c0, c1, c2, c3, c4, c5, c6, c7⟩ := range8 (sl_dg HS.out HO.out hx)
        obtain ⟨e0, e1, e2, e3, e4, e5, e6, e7⟩ := range8 (sl_dg HS'.out HO'.out hy)
        have heq := fun w => rdg_equal a0 a1 a2 a3 a4 a5 a6 a7 b0 b1 b2 b3 b4 b5 b6 b7 w
        have hi1 : (i : Int) < n := by omega
        have hi0 : (0 : Int) ≤ i := by omega
        have HX := Lib.hid hx; have HY := Lib.hid hy
        clear hx hy hxo hyo
        by_cases hab : [a0, a1, a2, a3, a4, a5, a6, a7] = [b0, b1, b2, b3, b4, b5, b6, b7]
        · have hE : eqL [a0, a1, a2, a3, a4, a5, a6, a7] [b0, b1, b2, b3, b4, b5, b6, b7] = true := by rw [eqL, decide_eq_true hab]
          have HT2 : Hid (ls.take (i + 1) = ms.take (i + 1)) := by
            show _ = _
            rw [take_snoc HX.out, take_snoc HY.out, HT.out, hab]
          rw [hE] at heq
          clear hab hE
          go_wp2_with fail
          go_quiet (fail)
          go_wp2_with fail
          go_roundw
          case rel => exact ⟨i + 1, _, by omega, by go_num, rfl, HT2⟩
          case measure => simp [intOf]; omega
        · have hE : eqL [a0, a1, a2, a3, a4, a5, a6, a7] [b0, b1, b2, b3, b4, b5, b6, b7] = false := by rw [eqL, decide_eq_false hab]
          have HF : Hid (eqD ls ms = false) := by
            show _ = _
            rw [eqD]
            refine decide_eq_false fun h => ?_
            have h1 := HX.out; have h2 := HY.out
            rw [h, h2] at h1
            exact hab (Option.some.inj h1).symm
          rw [hE] at heq
          clear hab hE
          go_wp2_with fail
          go_quiet (fail)
          go_wp2_with fail
          go_ret
          exact ⟨by rw [HF.out]; rfl, _, World.drewN_drewN _ _ _⟩
      · obtain rfl : i = n := by omega
        have hT : eqD ls ms = true := by
          have := HT.out
          rw [List.take_of_length_le (by rw [HL.out]; omega), List.take_of_length_le (by rw [HL'.out]; omega)] at this
          rw [eqD, decide_eq_true this]
        have HTT := Lib.hid hT
        clear hT
        go_wp2_with fail
        go_ret
        go_light
        exact ⟨by rw [HTT.out]; rfl, _, rfl⟩
  · have HF : Hid (eqD ls ms = false) := by
      show _ = _
      rw [eqD]
      refine decide_eq_false fun h => ?_
      rw [h] at hl; omega
    have h1 : decide ((n : Int) = n') = false := by simp; omega
    clear hs hs' ho ho' hl hl'
    go_enter Tryd.func20, Tryd.ntmps20
    go_wp2_with fail
    go_ret
    exact ⟨by rw [HF.out]; rfl, 0, rfl⟩

set_option maxRecDepth 20000 in
theorem equal_any (w : World) (A A' : Option Addr) (n n' c c' : Nat) (ls ms : List (List Int)) (ho : DsOk ls) (ho' : DsOk ms) (hs : Sl w w.heap.size 8 A n (cellsD ls)) (hs' : Sl w w.heap.size 8 A' n' (cellsD ms)) :
    Calls Tryd.prog 47 #[.slice A n c, .slice A' n' c'] w fun e w' => e = .returned (.bool (eqD ls ms)) ∧ ∃ q, w' = w.drewN q := by
  have hl := hs.dgs ho
  have hl' := hs'.dgs ho'
  have hn := hs.le
  have hn' := hs'.le
  by_cases hnn : n = n'
  · subst hnn
    have HS := Lib.hid hs; have HS' := Lib.hid hs'; have HO := Lib.hid ho; have HO' := Lib.hid ho'; have HL := Lib.hid hl; have HL' := Lib.hid hl'
    clear hs hs' ho ho' hl hl'
    go_enter Tryd.func47, Tryd.ntmps47
    go_wp2_with fail
    go_loopw [13] (fun is wr => ∃ (i q : Nat), i ≤ n ∧ is = .int .i64 i ∧ wr = w.drewN q ∧ Hid (ls.take i = ms.take i)) (fun is _ => n - (intOf is).toNat)
    case atStart => exact ⟨0, 0, by omega, rfl, rfl, by show _ = _; simp⟩
    case round =>
      obtain ⟨i, q, hi, rfl, rfl, HT⟩ := hrel
      by_cases hlt : i < n
      · obtain ⟨b, o, rfl, hbb, _⟩ := HS.out.spot (by omega) (by omega)
        obtain ⟨b', o', rfl, hbb', _⟩ := HS'.out.spot (by omega) (by omega)
        obtain ⟨x, hx⟩ : ∃ x, ls[i]? = some x := ⟨ls[i]'(by rw [HL.out]; exact hlt), List.getElem?_eq_getElem _⟩
        obtain ⟨y, hy⟩ : ∃ y, ms[i]? = some y := ⟨ms[i]'(by rw [HL'.out]; exact hlt), List.getElem?_eq_getElem _⟩
        have hxo := HO.out x (List.mem_of_getElem? hx)
        have hyo := HO'.out y (List.mem_of_getElem? hy)
        obtain ⟨a0, a1, a2, a3, a4, a5, a6, a7, rfl⟩ := list8 x hxo.len
        obtain ⟨b0, b1, b2, b3, b4, b5, b6, b7, rfl⟩ := list8 y hyo.len
        obtain ⟨c0, c1, c2, c3, c4, c5, c6, c7⟩ := range8 (sl_dg HS.out HO.out hx)
        obtain ⟨e0, e1, e2, e3, e4, e5, e6, e7⟩ := range8 (sl_dg HS'.out HO'.out hy)
        have heq := fun w => dg_equal a0 a1 a2 a3 a4 a5 a6 a7 b0 b1 b2 b3 b4 b5 b6 b7 w
        have hi1 : (i : Int) < n := by omega
        have hi0 : (0 : Int) ≤ i := by omega
        have HX := Lib.hid hx; have HY := Lib.hid hy
        clear hx hy hxo hyo
        by_cases hab : [a0, a1, a2, a3, a4, a5, a6, a7] = [b0, b1, b2, b3, b4, b5, b6, b7]
        · have hE : eqL [a0, a1, a2, a3, a4, a5, a6, a7] [b0, b1, b2, b3, b4, b5, b6, b7] = true := by rw [eqL, decide_eq_true hab]
          have HT2 : Hid (ls.take (i + 1) = ms.take (i + 1)) := by
            show _ = _
            rw [take_snoc HX.out, take_snoc HY.out, HT.out, hab]
          rw [hE] at heq
          clear hab hE
          go_wp2_with fail
          go_quiet (fail)
          go_wp2_with fail
          go_roundw
          case rel => exact ⟨i + 1, _, by omega, by go_num, rfl, HT2⟩
          case measure => simp [intOf]; omega
        · have hE : eqL [a0, a1, a2, a3, a4, a5, a6, a7] [b0, b1, b2, b3, b4, b5, b6, b7] = false := by rw [eqL, decide_eq_false hab]
          have HF : Hid (eqD ls ms = false) := by
            show _ = _
            rw [eqD]
            refine decide_eq_false fun h => ?_
            have h1 := HX.out; have h2 := HY.out
            rw [h, h2] at h1
            exact hab (Option.some.inj h1).symm
          rw [hE] at heq
          clear hab hE
          go_wp2_with fail
          go_quiet (fail)
          go_wp2_with fail
          go_ret
          exact ⟨by rw [HF.out]; rfl, _, World.drewN_drewN _ _ _⟩
      · obtain rfl : i = n := by omega
        have hT : eqD ls ms = true := by
          have := HT.out
          rw [List.take_of_length_le (by rw [HL.out]; omega), List.take_of_length_le (by rw [HL'.out]; omega)] at this
          rw [eqD, decide_eq_true this]
        have HTT := Lib.hid hT
        clear hT
        go_wp2_with fail
        go_ret
        go_light
        exact ⟨by rw [HTT.out]; rfl, _, rfl⟩
  · have HF : Hid (eqD ls ms = false) := by
      show _ = _
      rw [eqD]
      refine decide_eq_false fun h => ?_
      rw [h] at hl; omega
    have h1 : decide ((n : Int) = n') = false := by simp; omega
    clear hs hs' ho ho' hl hl'
    go_enter Tryd.func47, Tryd.ntmps47
    go_wp2_with fail
    go_ret
    exact ⟨by rw [HF.out]; rfl, 0, rfl⟩
end Go.Proofs.YtimcjldehememaaDoor
