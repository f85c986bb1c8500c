/- Bytes as strings, compared. -/
import Derived.Test.YthibihjblodfmaaO2
namespace Go.Proofs.Ythibihjblodfmaa
open Go.RowKit

def strOf (bs : List Int) : ByteArray := ⟨(bs.map fun b => UInt8.ofNat b.toNat).toArray⟩
theorem strOf_list (bs : List Int) : (strOf bs).toList = bs.map fun b => UInt8.ofNat b.toNat := by rw [ByteArray.toList_eq]; simp [strOf]
theorem strOf_inj : ∀ (xs ys : List Int), ByOk xs → ByOk ys → (xs.map fun b => UInt8.ofNat b.toNat) = (ys.map fun b => UInt8.ofNat b.toNat) → xs = ys
  | [], [], _, _, _ => rfl
  | [], _ :: _, _, _, h => by simp at h
  | _ :: _, [], _, _, h => by simp at h
  | x :: xs, y :: ys, hx, hy, h => by
    rw [List.map_cons, List.map_cons, List.cons.injEq] at h
    obtain ⟨x0, x1⟩ := hx x (by simp)
    obtain ⟨y0, y1⟩ := hy y (by simp)
    have h1 := congrArg UInt8.toNat h.1
    have e1 : (UInt8.ofNat x.toNat).toNat = x.toNat := UInt8.toNat_ofNat_of_lt' (by show x.toNat < 256; omega)
    have e2 : (UInt8.ofNat y.toNat).toNat = y.toNat := UInt8.toNat_ofNat_of_lt' (by show y.toNat < 256; omega)
    rw [e1, e2] at h1
    rw [strOf_inj xs ys hx.tail hy.tail h.2, show x = y by omega]
theorem strOf_beq (xs ys : List Int) (hx : ByOk xs) (hy : ByOk ys) : ((strOf xs).toList == (strOf ys).toList) = eqL xs ys := by
  rw [strOf_list, strOf_list, eqL]
  by_cases h : xs = ys
  · subst h; simp
  · rw [decide_eq_false h]
    exact beq_false_of_ne fun e => h (strOf_inj xs ys hx hy e)
theorem fold_str (bs : List Int) : ∀ s : ByteArray, bs.foldl (fun r n => r.push (UInt8.ofNat n.toNat)) s = ⟨(s.data.toList ++ bs.map fun b => UInt8.ofNat b.toNat).toArray⟩ := by
  induction bs with
  | nil => intro s; simp
  | cons b bs ih =>
    intro s
    rw [List.foldl_cons, ih]
    simp [ByteArray.push]
theorem conv_any (w : World) (B : Nat) (A : Option Addr) (n c : Nat) (bs : List Int) (hs : Sl w B 1 A n (bs.map (.int .u8))) :
    (convert 23 9 (.slice A n c)).run Try.prog w = .ok (.string (strOf bs)) w := by
  rw [run_convert_bytes_string _ _ _ 5 _ _ _ Try.underlying23 Try.underlying5 Try.underlying9]
  have hl := hs.length
  cases A with
  | none =>
    have h0 : n = 0 := by
      rcases Nat.eq_zero_or_pos n with h0 | h0
      · exact h0
      · obtain ⟨_, h, _⟩ := hs.mem h0; cases h
    obtain rfl : bs = [] := List.eq_nil_of_length_eq_zero (by omega)
    rfl
  | some ad =>
    have hc : ∀ (j : Nat) (u : Value), (bs.map (Value.int .u8))[j]? = some u → w.cell? (ad.add j) = some u := fun j u hu => by
      have hj : j < n := by have := (List.getElem?_eq_some_iff.1 hu).1; simp [hl] at this; exact this
      obtain ⟨ad', e, _, hcc⟩ := hs.mem (by omega)
      injection e with e; subst e
      exact hcc j u hu
    have h2 := run_loadCells_list (P := Try.prog) w ad (bs.map (Value.int .u8)) hc
    rw [List.length_map, hl] at h2
    rw [run_bytesToString (P := Try.prog) w ad n c bs h2, fold_str]
    rfl

theorem bytesEq_any (w : World) (B B' : Nat) (A A' : Option Addr) (n n' c c' : Nat) (xs ys : List Int) (hx : ByOk xs) (hy : ByOk ys) (hs : Sl w B 1 A n (xs.map (.int .u8))) (hs' : Sl w B' 1 A' n' (ys.map (.int .u8))) :
    Calls Try.prog 81 #[.slice A n c, .slice A' n' c'] w fun e w' => e = .returned (.bool (eqL xs ys)) ∧ w = w' := by
  have h1 := conv_any w B A n c xs hs
  have h2 := conv_any w B' A' n' c' ys hs'
  have HE := Lib.hid (strOf_beq xs ys hx hy)
  clear hx hy hs hs'
  go_enter Try.func81, Try.ntmps81
  go_wp2_with fail
  go_ret
  exact ⟨by rw [← HE.out]; rfl, rfl⟩
set_option maxRecDepth 20000 in
theorem rBytesEq_any (w : World) (A A' : Option Addr) (n n' c c' : Nat) (xs ys : List Int) (hs : Sl w w.heap.size 1 A n (xs.map (.int .u8))) (hs' : Sl w w.heap.size 1 A' n' (ys.map (.int .u8))) :
    Calls Try.prog 78 #[.slice A n c, .slice A' n' c'] w fun e w' => e = .returned (.bool (eqL xs ys)) ∧ ∃ q, w' = w.drewN q := by
  have hl := hs.length
  have hl' := hs'.length
  have hn := hs.le
  by_cases hnn : n = n'
  · subst hnn
    have HS := Lib.hid hs; have HS' := Lib.hid hs'; have HL := Lib.hid hl; have HL' := Lib.hid hl'
    clear hs hs' hl hl'
    go_enter Try.func78, Try.ntmps78
    go_wp2_with fail
    go_loopw [5] (fun is wr => ∃ (i q : Nat), i ≤ n ∧ is = .int .i64 i ∧ wr = w.drewN q ∧ Hid (xs.take i = ys.take i)) (fun is _ => n - (intOf is).toNat)
    case atStart => exact ⟨0, 0, by omega, rfl, rfl, by show _ = _; simp⟩
    case round =>
      obtain ⟨i, q, hi, rfl, rfl, HT⟩ := hrel
      by_cases hlt : i < n
      · obtain ⟨b, o, rfl, hbb, hcc⟩ := HS.out.spot (by omega) (by omega)
        obtain ⟨b', o', rfl, hbb', hcc'⟩ := HS'.out.spot (by omega) (by omega)
        obtain ⟨x, hx⟩ : ∃ x, xs[i]? = some x := ⟨xs[i]'(by rw [HL.out]; exact hlt), List.getElem?_eq_getElem _⟩
        obtain ⟨y, hy⟩ : ∃ y, ys[i]? = some y := ⟨ys[i]'(by rw [HL'.out]; exact hlt), List.getElem?_eq_getElem _⟩
        have c0 : w.cell? ⟨b, o + i, none⟩ = some (.int .u8 x) := hcc i _ (by rw [List.getElem?_map, hx]; rfl)
        have c1 : w.cell? ⟨b', o' + i, none⟩ = some (.int .u8 y) := hcc' i _ (by rw [List.getElem?_map, hy]; rfl)
        have hi1 : (i : Int) < n := by omega
        have hi0 : (0 : Int) ≤ i := by omega
        have HX := Lib.hid hx; have HY := Lib.hid hy
        clear hx hy hcc hcc'
        by_cases hab : x = y
        · have hE : (x != y) = false := by simp [hab]
          have HT2 : Hid (xs.take (i + 1) = ys.take (i + 1)) := by
            show _ = _
            rw [take_snoc HX.out, take_snoc HY.out, HT.out, hab]
          clear hab
          go_wp2_with fail
          go_quiet (fail)
          go_wp2_with fail
          go_roundw
          case rel => exact ⟨i + 1, _, by omega, by go_num, rfl, HT2⟩
          case measure => simp [intOf]; omega
        · have hE : (x != y) = true := by simp [hab]
          have HF : Hid (eqL xs ys = false) := by
            show _ = _
            rw [eqL]
            refine decide_eq_false fun h => ?_
            have h1 := HX.out; have h2 := HY.out
            rw [h, h2] at h1
            exact hab (Option.some.inj h1).symm
          clear hab
          go_wp2_with fail
          go_quiet (fail)
          go_wp2_with fail
          go_ret
          exact ⟨by rw [HF.out]; rfl, _, World.drewN_drewN _ _ _⟩
      · obtain rfl : i = n := by omega
        have hT : eqL xs ys = true := by
          have := HT.out
          rw [List.take_of_length_le (by rw [HL.out]; omega), List.take_of_length_le (by rw [HL'.out]; omega)] at this
          rw [eqL, decide_eq_true this]
        have HTT := Lib.hid hT
        clear hT
        go_wp2_with fail
        go_ret
        go_light
        exact ⟨by rw [HTT.out]; rfl, _, rfl⟩
  · have HF : Hid (eqL xs ys = false) := by
      show _ = _
      rw [eqL]
      refine decide_eq_false fun h => ?_
      rw [h] at hl; omega
    have h1 : decide ((n : Int) = n') = false := by simp; omega
    clear hs hs' hl hl'
    go_enter Try.func78, Try.ntmps78
    go_wp2_with fail
    go_ret
    exact ⟨by rw [HF.out]; rfl, 0, rfl⟩
end Go.Proofs.Ythibihjblodfmaa
