/- fund.New and the chapter's example. -/
import Derived.Test.YtfapechlnllfaabF4
import Derived.Laws.CopyOwn
namespace Go.Proofs.Ytfapechlnllfaab
open Go.RowKit

def zeroB (l : List Int) : Bool := l.any (· == 0)
def newE (l : List Int) (b : Int) : Int :=
  if l.length < 2 ∨ 8 < l.length then 1 else if zeroB l = true then 2 else if (sumG 0 l).2 ≠ 0 then 2 else if b < 0 ∨ 1099511627776 < b then 2 else 0

theorem addE_cases (s x : Int) : (addE s x = 0 ∧ rightB s = true ∧ rightB x = true ∧ rightB (s + x) = true ∧ addV s x = s + x) ∨ addE s x = 2 := by
  unfold addE addV
  by_cases h1 : rightB s = true <;> by_cases h2 : rightB x = true <;> by_cases h3 : rightB (s + x) = true <;> simp_all
theorem sumG_ok : ∀ (l : List Int) (s : Int), (sumG s l).2 = 0 → rightB s = true → (∀ x ∈ l, rightB x = true) ∧ (sumG s l).1 = s + l.foldr (· + ·) 0 ∧ rightB (s + l.foldr (· + ·) 0) = true
  | [], s, _, hs => by simp [sumG, hs]
  | x :: l, s, h, hs => by
    rcases addE_cases s x with ⟨h1, h2, h3, h4, h5⟩ | h1
    · rw [sumG, if_pos h1] at h ⊢
      rw [h5] at h ⊢
      obtain ⟨i1, i2, i3⟩ := sumG_ok l (s + x) h h4
      refine ⟨fun y hy => ?_, by rw [i2, List.foldr_cons]; omega, by rw [List.foldr_cons, ← Int.add_assoc]; exact i3⟩
      rcases List.mem_cons.1 hy with rfl | hy
      · exact h3
      · exact i1 y hy
    · rw [sumG, if_neg (by omega)] at h
      simp [h1] at h
theorem sumG_bad : ∀ (l : List Int) (s : Int), (sumG s l).2 = 0 ∨ (sumG s l).2 = 2
  | [], s => .inl rfl
  | x :: l, s => by
    rcases addE_cases s x with ⟨h1, _⟩ | h1
    · rw [sumG, if_pos h1]; exact sumG_bad l _
    · rw [sumG, if_neg (by omega)]; exact .inr h1
theorem new_ok_of {l : List Int} {b : Int} (h : newE l b = 0) : FundOk l (List.replicate l.length false) b ∧ (sumG 0 l).2 = 0 ∧ zeroB l = false ∧ (sumG 0 l).1 = l.foldr (· + ·) 0 := by
  unfold newE at h
  by_cases h1 : l.length < 2 ∨ 8 < l.length
  · rw [if_pos h1] at h; cases h
  rw [if_neg h1] at h
  by_cases h2 : zeroB l = true
  · rw [if_pos h2] at h; cases h
  rw [if_neg h2] at h
  by_cases h3 : (sumG 0 l).2 ≠ 0
  · rw [if_pos h3] at h; cases h
  rw [if_neg h3] at h
  by_cases h4 : b < 0 ∨ 1099511627776 < b
  · rw [if_pos h4] at h; cases h
  have h3' : (sumG 0 l).2 = 0 := by simpa using h3
  obtain ⟨i1, i2, i3⟩ := sumG_ok l 0 h3' rfl
  have i4 := right_of i3
  refine ⟨⟨by omega, by omega, by simp, fun x hx => ?_, by omega, by omega, by omega⟩, h3', by simpa using h2, by omega⟩
  have h5 := right_of (i1 x hx)
  have h6 : x ≠ 0 := fun e => h2 (by rw [zeroB, List.any_eq_true]; exact ⟨x, hx, by simp [e]⟩)
  omega

theorem splice_new (l : List Int) (b : Int) (h : l.length ≤ 8) :
    splice [Value.int .i64 (l.length : Nat), .int .i64 0, .int .i64 0, .int .i64 0, .int .i64 0, .int .i64 0, .int .i64 0, .int .i64 0, .int .i64 0, .bool false, .bool false, .bool false, .bool false, .bool false, .bool false, .bool false, .bool false, .int .i64 b] 1 (l.map (.int .i64)) =
      fundCells l (List.replicate l.length false) b := by
  match l, h with
  | [], _ | [_], _ | [_, _], _ | [_, _, _], _ | [_, _, _, _], _ | [_, _, _, _, _], _ | [_, _, _, _, _, _], _ | [_, _, _, _, _, _, _], _ | [_, _, _, _, _, _, _, _], _ => rfl
  | _ :: _ :: _ :: _ :: _ :: _ :: _ :: _ :: _ :: _, h => exact absurd h (by simp)

set_option maxHeartbeats 800000 in
theorem new_any (A : Option Addr) (n c : Nat) (zs : List Int) (b : Int) (w : World) (h : Sl w w.heap.size 1 A n (zs.map (.int .i64))) :
    Calls Try.prog 11 #[.slice A n c, .int .i64 b] w fun e w' =>
      (newE zs b ≠ 0 ∧ e = .returned (.tuple #[.pointer none, .int .i64 (newE zs b)]) ∧ w = w') ∨
      (newE zs b = 0 ∧ e = .returned (.tuple #[.pointer (some ⟨w.heap.size, 0, none⟩), .int .i64 0]) ∧ FundAt w' w.heap.size zs (List.replicate zs.length false) b ∧ Below w.heap.size w w') := by
  have hn := h.le
  have hl := h.length
  have H := Lib.hid h; clear h
  have hpost : ∀ k : Int, k ≠ 0 → newE zs b = k → ∀ w', w = w' → (newE zs b ≠ 0 ∧ Ending.returned (.tuple #[.pointer none, .int .i64 k]) = .returned (.tuple #[.pointer none, .int .i64 (newE zs b)]) ∧ w = w') := by
    rintro k hk rfl w' rfl; exact ⟨hk, rfl, rfl⟩
  have HP := Lib.hid hpost; clear hpost
  have HL := Lib.hid hl; clear hl
  have hE : newE zs b = if n < 2 ∨ 8 < n then 1 else if zeroB zs = true then 2 else if (sumG 0 zs).2 ≠ 0 then 2 else if b < 0 ∨ 1099511627776 < b then 2 else 0 := by rw [newE, HL.out]
  have HE := Lib.hid hE; clear hE
  by_cases h2 : n < 2
  · have h2' : (n : Int) < 2 := by omega
    go_enter Try.func11, Try.ntmps11
    go_wp2_with fail
    go_ret2
    exact .inl (HP.out 1 (by decide) (by rw [HE.out, if_pos (.inl h2)]) _ rfl)
  by_cases h8 : 8 < n
  · have h2' : ¬ (n : Int) < 2 := by omega
    have h8' : (8 : Int) < n := by omega
    go_enter Try.func11, Try.ntmps11
    go_wp2_with fail
    go_ret2
    exact .inl (HP.out 1 (by decide) (by rw [HE.out, if_pos (.inr h8)]) _ rfl)
  have hE2 : newE zs b = if zeroB zs = true then 2 else if (sumG 0 zs).2 ≠ 0 then 2 else if b < 0 ∨ 1099511627776 < b then 2 else 0 := by
    rw [HE.out, if_neg (by omega)]
  have HE2 := Lib.hid hE2; clear hE2 HE
  have h2' : (2 : Int) ≤ n := by omega
  have h8' : (n : Int) ≤ 8 := by omega
  have hd2 : decide ((n : Int) < 2) = false := by simp; omega
  have hd8 : decide ((8 : Int) < n) = false := by simp; omega
  clear h2 h8
  go_enter Try.func11, Try.ntmps11
  go_wp2_with fail
  go_loop [21] (fun i => ∃ (k : Nat), k ≤ n ∧ i = .int .i64 k ∧ Hid (zeroB (zs.drop k) = zeroB zs)) (fun i => n - (intOf i).toNat)
  case atStart => exact ⟨0, Nat.zero_le _, rfl, rfl⟩
  case round =>
    obtain ⟨k, hk, rfl, hs⟩ := hrel
    by_cases hlt : k < n
    · obtain ⟨ad, z, rfl, hb, hz, hc⟩ := H.out.at_ hlt
      have e1 := hs.out; rw [drop_cons hz] at e1
      have E1 := Lib.hid e1; clear e1 hz
      by_cases hz0 : z = 0
      · subst hz0
        go_wp2_with fail
        go_ret2
        go_light
        exact .inl (HP.out 2 (by decide) (by rw [HE2.out, ← E1.out]; simp [zeroB]) _ rfl)
      · have hz0' : (z == 0) = false := by simp [hz0]
        have E2 : Hid (zeroB (zs.drop (k + 1)) = zeroB zs) := by
          show _ = _
          rw [← E1.out]; simp [zeroB, hz0]
        clear E1
        go_wp2_with fail
        go_round
        case rel => exact ⟨k + 1, by omega, by go_num, E2⟩
        case measure => simp [intOf]; omega
    · have e1 := hs.out
      rw [List.drop_eq_nil_of_le (by have := HL.out; omega)] at e1
      have hz : zeroB zs = false := by rw [← e1]; rfl
      have hE3 : newE zs b = if (sumG 0 zs).2 ≠ 0 then 2 else if b < 0 ∨ 1099511627776 < b then 2 else 0 := by
        rw [HE2.out, if_neg (by rw [hz]; decide)]
      have HE3 := Lib.hid hE3; clear hE3 HE2 hz e1 hs
      by_cases hsum : (sumG 0 zs).2 = 0
      · have hE4 : newE zs b = if b < 0 ∨ 1099511627776 < b then 2 else 0 := by
          rw [HE3.out, if_neg (by rw [hsum]; decide)]
        have HE4 := Lib.hid hE4; clear hE4 HE3
        by_cases hb0 : b < 0
        · go_wp2_with (go_at_call 27; refine (sum_any _ _ _ _ _ H.out).mono ?_; rintro e w' ⟨rfl, rfl⟩; rw [hsum])
          go_ret2
          go_light
          exact .inl (HP.out 2 (by decide) (by rw [HE4.out, if_pos (.inl hb0)]) _ rfl)
        by_cases hb1 : 1099511627776 < b
        · have hb0' : decide (b < 0) = false := by simp; omega
          go_wp2_with (go_at_call 27; refine (sum_any _ _ _ _ _ H.out).mono ?_; rintro e w' ⟨rfl, rfl⟩; rw [hsum])
          go_ret2
          go_light
          exact .inl (HP.out 2 (by decide) (by rw [HE4.out, if_pos (.inr hb1)]) _ rfl)
        have hok : newE zs b = 0 := by rw [HE4.out, if_neg (by omega)]
        have HOK := Lib.hid hok; clear hok HE4
        have hb0' : decide (b < 0) = false := by simp; omega
        have hb1' : b ≤ 1099511627776 := by omega
        have hb0'' : 0 ≤ b := by omega
        clear hb0 hb1
        have hbl0 := below_new w (.cells [Value.int .i64 (n : Nat), .int .i64 0, .int .i64 0, .int .i64 0, .int .i64 0, .int .i64 0, .int .i64 0, .int .i64 0, .int .i64 0, .bool false, .bool false, .bool false, .bool false, .bool false, .bool false, .bool false, .bool false, .int .i64 b].toArray 64)
        have HB0 := Lib.hid hbl0; clear hbl0
        go_wp2_with (first
          | (go_at_call 27; refine (sum_any _ _ _ _ _ H.out).mono ?_; rintro e w' ⟨rfl, rfl⟩; rw [hsum])
          | (refine wpList_copy_splice rfl (.tmp 49) (.tmp 50) 22 22 rfl 3 Try.underlying22 (by kernel_rfl) _ _ 8 8 n c rfl rfl w.heap.size 1 [Value.int .i64 (n : Nat), .int .i64 0, .int .i64 0, .int .i64 0, .int .i64 0, .int .i64 0, .int .i64 0, .int .i64 0, .int .i64 0, .bool false, .bool false, .bool false, .bool false, .bool false, .bool false, .bool false, .bool false, .int .i64 b] 64 (heap_alloc_last w _) (zs.map (.int .i64)) (by rw [List.length_map, HL.out]; exact (Nat.min_eq_left (by omega)).symm) (fun _ => (by obtain ⟨ad, e, _, hc⟩ := (H.out.alloc (Nat.le_refl _) _).mem (by omega); exact ⟨rfl, ad, e, hc⟩)) (by have := HL.out; simp; omega) (ints_one _ _) w.heap.size w HB0.out (Nat.le_refl _) ?_; intro w2 HG2 hB2))
        go_ret2
        go_light
        refine .inr ⟨HOK.out, rfl, ⟨?_, (new_ok_of HOK.out).1⟩, hB2⟩
        have e2 := HG2.out
        rw [← HL.out, splice_new zs b (by have := HL.out; omega)] at e2
        exact e2
      · have hsum' : (sumG 0 zs).2 = 2 := by have := sumG_bad zs 0; omega
        go_wp2_with (go_at_call 27; refine (sum_any _ _ _ _ _ H.out).mono ?_; rintro e w' ⟨rfl, rfl⟩; rw [hsum'])
        go_ret2
        go_light
        exact .inl (HP.out 2 (by decide) (by rw [HE3.out, if_pos hsum]) _ rfl)

theorem newE_zero_sl : newE [5, 3] 10 = 0 := by decide
end Go.Proofs.Ytfapechlnllfaab
