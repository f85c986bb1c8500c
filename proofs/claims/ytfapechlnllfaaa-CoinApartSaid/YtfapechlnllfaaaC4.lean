/- coin.Pot: what each method does to the block in which a pot lies. -/
import Derived.Test.YtfapechlnllfaaaC3
import Derived.BigRegion
import Derived.Deep.RegionLaw
namespace Go.Proofs.Ytfapechlnllfaaa
open Go.RowKit

def potCells (l s : Int) (ps : List Int) : List Value := .int .i64 l :: .int .i64 s :: ps.map (.int .i64)
structure PotAt (w : World) (g : Nat) (l s : Int) (ps : List Int) : Prop where
  bk : Bk w g 70 (potCells l s ps)
  len : ps.length = 8
/-- A pot as the program makes them: nothing grows beyond an amount. -/
structure PotOk (l s : Int) (ps : List Int) : Prop where
  s1 : 1 ≤ s
  s8 : s ≤ 8
  l0 : 0 ≤ l
  l1 : l ≤ 1125899906842624
  ps : ∀ x ∈ ps, 0 ≤ x ∧ x + l ≤ 1125899906842624
section
variable {w w' : World} {g : Nat} {l s : Int} {ps : List Int}
theorem PotAt.c0 (h : PotAt w g l s ps) : w.cell? ⟨g, 0, none⟩ = some (.int .i64 l) := by rw [h.bk.cell]; rfl
theorem PotAt.c1 (h : PotAt w g l s ps) : w.cell? ⟨g, 1, none⟩ = some (.int .i64 s) := by rw [h.bk.cell]; rfl
theorem PotAt.c2 (h : PotAt w g l s ps) {i : Nat} {x : Int} (hx : ps[i]? = some x) : w.cell? ⟨g, 2 + i, none⟩ = some (.int .i64 x) := by rw [h.bk.cell, Nat.add_comm]; simp [potCells, hx]
theorem PotAt.fr (h : PotAt w g l s ps) (i : Nat) : w.frozen? ⟨g, i, none⟩ = false := h.bk.frozen i
theorem PotAt.lt (h : PotAt w g l s ps) : g < w.heap.size := h.bk.lt
theorem PotAt.later (h : PotAt w g l s ps) (hb : Below w.heap.size w w') : PotAt w' g l s ps := ⟨h.bk.later hb, h.len⟩
theorem PotAt.grown (h : PotAt w g l s ps) {row : Option Nat} (hb : w.grownBy w' row) (hg : some g ≠ row) : PotAt w' g l s ps := ⟨h.bk.grown hb hg, h.len⟩
theorem PotAt.drewN (h : PotAt w g l s ps) (n : Nat) : PotAt (w.drewN n) g l s ps := ⟨h.bk.drewN n, h.len⟩
end

def newE (amount seats : Int) : Int := if rightB amount = false then 2 else if 1 ≤ seats ∧ seats ≤ 8 then 0 else 1

theorem new_bad (amount seats : Int) (w : World) (h : newE amount seats ≠ 0) :
    Calls Try.prog 19 #[.int .i64 amount, .int .i64 seats] w fun e w' => e = .returned (.tuple #[.pointer none, .int .i64 (newE amount seats)]) ∧ w = w' := by
  have H := Lib.hid h; clear h
  go_enter Try.func19, Try.ntmps19
  go_wp2_with (go_at_call 34; refine (right_any _ _).mono ?_; rintro e w' ⟨rfl, rfl⟩)
  all_goals
    go_ret2
    go_light
  · exact ⟨by simp_all [newE], rfl⟩
  · exact ⟨by simp_all [newE] <;> omega, rfl⟩
  · exact ⟨by simp_all [newE] <;> omega, rfl⟩
  · exact absurd H.out (by simp_all [newE])
theorem new_ok (amount seats : Int) (w : World) (h : rightB amount = true) (h1 : 1 ≤ seats) (h8 : seats ≤ 8) :
    Calls Try.prog 19 #[.int .i64 amount, .int .i64 seats] w fun e w' => e = .returned (.tuple #[.pointer (some ⟨w.heap.size, 0, none⟩), .int .i64 0]) ∧
      PotAt w' w.heap.size amount seats [0, 0, 0, 0, 0, 0, 0, 0] ∧ Below w.heap.size w w' := by
  go_enter Try.func19, Try.ntmps19
  go_wp2_with (go_at_call 34; refine (right_any _ _).mono ?_; rintro e w' ⟨rfl, rfl⟩)
  go_ret2
  exact ⟨rfl, ⟨Bk.new _ _ _, rfl⟩, (Below.refl _ _).alloc (Nat.le_refl _) _⟩
theorem left_any (w : World) (g : Nat) (l s : Int) (ps : List Int) (h : PotAt w g l s ps) :
    Calls Try.prog 23 #[.pointer (some ⟨g, 0, none⟩)] w fun e w' => e = .returned (.int .i64 l) ∧ w = w' := by
  have h0 := h.c0
  go_enter Try.func23, Try.ntmps23
  go_wp2_with fail
  go_ret
  exact ⟨rfl, rfl⟩
theorem left_nil (w : World) :
    Calls Try.prog 23 #[.pointer none] w fun e w' => e = .returned (.int .i64 0) ∧ w = w' := by
  go_enter Try.func23, Try.ntmps23
  go_wp2_with fail
  go_ret
  exact ⟨rfl, rfl⟩

def payOf (l ask : Int) : Int := min (max ask 0) l

theorem pot_paid {w : World} {g : Nat} {l s : Int} {ps : List Int} (h : PotAt w g l s ps) (i : Nat) (u v : Int) :
    PotAt ((w.setCell ⟨g, 2 + i, none⟩ (.int .i64 u)).setCell ⟨g, 0, none⟩ (.int .i64 v)).drew g v s (ps.set i u) ∧
      w.grownBy ((w.setCell ⟨g, 2 + i, none⟩ (.int .i64 u)).setCell ⟨g, 0, none⟩ (.int .i64 v)).drew (some g) := by
  refine ⟨⟨?_, by simpa using h.len⟩, only_drew (only_set (only_set (World.grownBy.refl _ _) _ _) _ _)⟩
  have h1 := ((h.bk.set_ (2 + i) (.int .i64 u)).set_ 0 (.int .i64 v)).drew
  rw [Nat.add_comm] at h1 ⊢
  simpa [potCells, List.map_set] using h1

set_option maxHeartbeats 400000 in
theorem pay_in (w : World) (g : Nat) (l s : Int) (ps : List Int) (h : PotAt w g l s ps) (ok : PotOk l s ps) (i : Nat) (hi : (i : Int) < s) (ask : Int) (x : Int) (hx : ps[i]? = some x) :
    Calls Try.prog 22 #[.pointer (some ⟨g, 0, none⟩), .int .i64 i, .int .i64 ask] w fun e w' => e = .returned (.int .i64 (payOf l ask)) ∧
      PotAt w' g (l - payOf l ask) s (ps.set i (x + payOf l ask)) ∧ w.grownBy w' (some g) := by
  have h0 := h.c0
  have h1 := h.c1
  have h2 := h.c2 hx
  have f0 := h.fr 0
  have f2 := h.fr (2 + i)
  have ok0 := ok.l0
  have ok1 := ok.l1
  have ok8 := ok.s8
  have okx := ok.ps x (List.mem_of_getElem? hx)
  obtain ⟨okx0, okx1⟩ := okx
  have HX := Lib.hid hx; clear hx
  have H := Lib.hid h; clear h
  have hsp : (∃ p, payOf l ask = p ∧ ask < 0 ∧ p = 0) ∨ (∃ p, payOf l ask = p ∧ 0 ≤ ask ∧ ask ≤ l ∧ p = ask) ∨ (∃ p, payOf l ask = p ∧ 0 ≤ ask ∧ l < ask ∧ p = l) := by
    unfold payOf
    rcases Int.lt_or_le ask 0 with h | h
    · exact .inl ⟨_, rfl, h, by omega⟩
    · rcases Int.lt_or_le l ask with h' | h'
      · exact .inr (.inr ⟨_, rfl, h, h', by omega⟩)
      · exact .inr (.inl ⟨_, rfl, h, h', by omega⟩)
  rcases hsp with ⟨p, hp, k1, rfl⟩ | ⟨p, hp, k1, k2, rfl⟩ | ⟨p, hp, k1, k2, rfl⟩
  all_goals
    rw [hp]
    clear hp
    go_enter Try.func22, Try.ntmps22
    go_wp2_with fail
    go_region
    go_wp2_with fail
    go_ret
    go_light
    exact ⟨rfl, by simpa using pot_paid H.out i _ _⟩

set_option maxHeartbeats 400000 in
theorem pay_out (w : World) (g : Nat) (l s : Int) (ps : List Int) (h : PotAt w g l s ps) (ok : PotOk l s ps) (seat : Int) (hs : seat < 0 ∨ s ≤ seat) (ask : Int) (x : Int) (hx : ps[0]? = some x) :
    Calls Try.prog 22 #[.pointer (some ⟨g, 0, none⟩), .int .i64 seat, .int .i64 ask] w fun e w' => e = .returned (.int .i64 (payOf l ask)) ∧
      PotAt w' g (l - payOf l ask) s (ps.set 0 (x + payOf l ask)) ∧ w.grownBy w' (some g) := by
  have h0 := h.c0
  have h1 := h.c1
  have h2 := h.c2 hx
  have f0 := h.fr 0
  have f2 := h.fr (2 + 0)
  simp only [Nat.add_zero] at h2 f2
  have ok0 := ok.l0
  have ok1 := ok.l1
  have ok8 := ok.s8
  have ok2 := ok.s1
  have okx := ok.ps x (List.mem_of_getElem? hx)
  obtain ⟨okx0, okx1⟩ := okx
  have HX := Lib.hid hx; clear hx
  have H := Lib.hid h; clear h
  have hsp : (∃ p, payOf l ask = p ∧ ask < 0 ∧ p = 0) ∨ (∃ p, payOf l ask = p ∧ 0 ≤ ask ∧ ask ≤ l ∧ p = ask) ∨ (∃ p, payOf l ask = p ∧ 0 ≤ ask ∧ l < ask ∧ p = l) := by
    unfold payOf
    rcases Int.lt_or_le ask 0 with h | h
    · exact .inl ⟨_, rfl, h, by omega⟩
    · rcases Int.lt_or_le l ask with h' | h'
      · exact .inr (.inr ⟨_, rfl, h, h', by omega⟩)
      · exact .inr (.inl ⟨_, rfl, h, h', by omega⟩)
  by_cases hs0 : seat < 0
  · clear hs
    rcases hsp with ⟨p, hp, k1, rfl⟩ | ⟨p, hp, k1, k2, rfl⟩ | ⟨p, hp, k1, k2, rfl⟩
    all_goals
      rw [hp]
      clear hp
      go_enter Try.func22, Try.ntmps22
      go_wp2_with fail
      go_region
      go_wp2_with fail
      go_ret
      go_light
      exact ⟨rfl, by simpa using pot_paid H.out 0 _ _⟩
  · have hs1 : 0 ≤ seat := by omega
    have hs2 : s ≤ seat := by omega
    have hd1 : decide (seat < 0) = false := by simp; omega
    have hd2 : decide (s ≤ seat) = true := by simp; omega
    clear hs hs0
    rcases hsp with ⟨p, hp, k1, rfl⟩ | ⟨p, hp, k1, k2, rfl⟩ | ⟨p, hp, k1, k2, rfl⟩
    all_goals
      rw [hp]
      clear hp
      go_enter Try.func22, Try.ntmps22
      go_wp2_with fail
      go_region
      go_wp2_with fail
      go_ret
      go_light
      exact ⟨rfl, by simpa using pot_paid H.out 0 _ _⟩
theorem pay_nil (seat ask : Int) (w : World) :
    Calls Try.prog 22 #[.pointer none, .int .i64 seat, .int .i64 ask] w fun e w' => e = .returned (.int .i64 0) ∧ w = w' := by
  go_enter Try.func22, Try.ntmps22
  go_wp2_with fail
  go_ret
  exact ⟨rfl, rfl⟩

def payIdx (s seat : Int) : Nat := if 0 ≤ seat ∧ seat < s then seat.toNat else 0
def paid (s : Int) (ps : List Int) (seat p : Int) : List Int := ps.set (payIdx s seat) (ps.getD (payIdx s seat) 0 + p)

theorem pay_any (w : World) (g : Nat) (l s : Int) (ps : List Int) (h : PotAt w g l s ps) (ok : PotOk l s ps) (seat ask : Int) :
    Calls Try.prog 22 #[.pointer (some ⟨g, 0, none⟩), .int .i64 seat, .int .i64 ask] w fun e w' => e = .returned (.int .i64 (payOf l ask)) ∧
      PotAt w' g (l - payOf l ask) s (paid s ps seat (payOf l ask)) ∧ w.grownBy w' (some g) := by
  have hl := h.len
  have h8 := ok.s8
  by_cases hs : 0 ≤ seat ∧ seat < s
  · obtain ⟨h1, h2⟩ := hs
    obtain ⟨i, rfl⟩ := Int.eq_ofNat_of_zero_le h1
    have hi : i < ps.length := by omega
    have e : payIdx s i = i := by unfold payIdx; rw [if_pos ⟨h1, h2⟩]; simp
    have := pay_in w g l s ps h ok i h2 ask ps[i] (List.getElem?_eq_getElem hi)
    unfold paid; rw [e]
    simpa [List.getD_eq_getElem?_getD, hi] using this
  · have e : payIdx s seat = 0 := by unfold payIdx; rw [if_neg hs]
    have := pay_out w g l s ps h ok seat (by omega) ask (ps[0]'(by omega)) (List.getElem?_eq_getElem (by omega))
    unfold paid; rw [e]
    simpa [List.getD_eq_getElem?_getD, hl] using this
theorem pay_bounds {l ask : Int} (h0 : 0 ≤ l) : 0 ≤ payOf l ask ∧ payOf l ask ≤ l := by unfold payOf; omega
theorem pay_ok {l s : Int} {ps : List Int} (ok : PotOk l s ps) (seat ask : Int) : PotOk (l - payOf l ask) s (paid s ps seat (payOf l ask)) := by
  obtain ⟨h1, h2⟩ := pay_bounds (ask := ask) ok.l0
  have h3 := ok.l1
  refine ⟨ok.s1, ok.s8, by omega, by omega, fun x hx => ?_⟩
  rcases List.mem_or_eq_of_mem_set hx with hx | rfl
  · have := ok.ps x hx; omega
  · have h4 : 0 ≤ ps.getD (payIdx s seat) 0 ∧ ps.getD (payIdx s seat) 0 + l ≤ 1125899906842624 := by
      rw [List.getD_eq_getElem?_getD]
      cases hq : ps[payIdx s seat]? with
      | none => simp; omega
      | some y => exact ok.ps y (List.mem_of_getElem? hq)
    omega
theorem new_pot_ok {amount seats : Int} (h : rightB amount = true) (h1 : 1 ≤ seats) (h8 : seats ≤ 8) : PotOk amount seats [0, 0, 0, 0, 0, 0, 0, 0] := by
  obtain ⟨h2, h3⟩ := right_of h
  exact ⟨h1, h8, h2, h3, fun x hx => by simp at hx; subst hx; omega⟩

theorem pays_nil (w : World) :
    Calls Try.prog 24 #[.pointer none] w fun e w' => e = .returned (.slice none 0 0) ∧ w = w' := by
  go_enter Try.func24, Try.ntmps24
  go_wp2_with fail
  go_ret
  exact ⟨rfl, rfl⟩

theorem pot_sl {w : World} {g : Nat} {l s : Int} {ps : List Int} (h : PotAt w g l s ps) (k : Nat) (hk : k ≤ 8) : Sl w w.heap.size 1 (some ⟨g, 2, none⟩) k ((ps.take k).map (.int .i64)) :=
  ⟨by simp [h.len]; omega, by omega, fun _ => ⟨_, rfl, h.lt, fun j u hu => by
    have e : (⟨g, 2, none⟩ : Addr).add j = ⟨g, 2 + j, none⟩ := by unfold Addr.add; split <;> simp_all
    rw [e]
    rw [List.getElem?_map] at hu
    obtain ⟨x, hx, rfl⟩ := Option.map_eq_some_iff.1 hu
    refine h.c2 ?_
    rw [List.getElem?_take] at hx
    split at hx
    · exact hx
    · cases hx⟩⟩

theorem pays_any (w : World) (g : Nat) (l : Int) (k : Nat) (ps : List Int) (h : PotAt w g l k ps) (ok : PotOk l k ps) :
    Calls Try.prog 24 #[.pointer (some ⟨g, 0, none⟩)] w fun e w' => ∃ v, e = .returned v ∧ w'.ownsRow w.heap.size 3 1 v k ((ps.take k).map (.int .i64)) ∧ Below w.heap.size w w' := by
  have h1 := h.c1
  have ok1 := ok.s1
  have ok8 := ok.s8
  obtain ⟨i0, hi, hz0, hz1, hz2⟩ := info_parts Try.infoInt
  have H := Lib.hid h; clear h
  go_enter Try.func24, Try.ntmps24
  go_wp2_with fail
  go_region_law (first | (refine step_app _ rfl (.const (.slice none 0 0)) (.tmp 12) 24 rfl w.heap.size 3 i0 (.int .i64 0) 1 8 Try.underlying24 hi hz0 hz1 hz2 rfl (by decide) (.slice none 0 0) 0 [] rfl (World.ownsRow_nil _ _ _ _) _ _ k 8 ((ps.take k).map (.int .i64)) rfl ((pot_sl H.out k (by omega)).drew) (ints_one _ _) (by unfold maxLen; omega) (by omega) (Nat.le_refl _) ?_; intro v1 w1 hown1 hg1 hat1; have hbl1 : Below w.heap.size w w1 := ((Below.refl _ _).drew).grown hg1 (Nat.le_refl _) (by simp [Value.ownBlock]); clear hg1 hat1))
  go_wp2_with fail
  go_ret
  go_light
  exact ⟨v1, rfl, by simpa using hown1, hbl1⟩
theorem clone_nil (w : World) :
    Calls Try.prog 25 #[.pointer none] w fun e w' => e = .returned (.pointer none) ∧ w = w' := by
  go_enter Try.func25, Try.ntmps25
  go_wp2_with fail
  go_ret
  exact ⟨rfl, rfl⟩

theorem list8 {α : Type} (l : List α) (h : l.length = 8) : ∃ a0 a1 a2 a3 a4 a5 a6 a7, l = [a0, a1, a2, a3, a4, a5, a6, a7] := by
  match l, h with
  | [a0, a1, a2, a3, a4, a5, a6, a7], _ => exact ⟨_, _, _, _, _, _, _, _, rfl⟩

theorem clone_any (w : World) (g : Nat) (l s : Int) (ps : List Int) (h : PotAt w g l s ps) :
    Calls Try.prog 25 #[.pointer (some ⟨g, 0, none⟩)] w fun e w' => ∃ g', e = .returned (.pointer (some ⟨g', 0, none⟩)) ∧ w.heap.size ≤ g' ∧ PotAt w' g' l s ps ∧ Below w.heap.size w w' := by
  obtain ⟨a0, a1, a2, a3, a4, a5, a6, a7, rfl⟩ := list8 ps h.len
  have c0 := h.bk.cell 0
  have c1 := h.bk.cell 1
  have c2 := h.bk.cell 2
  have c3 := h.bk.cell 3
  have c4 := h.bk.cell 4
  have c5 := h.bk.cell 5
  have c6 := h.bk.cell 6
  have c7 := h.bk.cell 7
  have c8 := h.bk.cell 8
  have c9 := h.bk.cell 9
  simp [potCells] at c0 c1 c2 c3 c4 c5 c6 c7 c8 c9
  clear h
  go_enter Try.func25, Try.ntmps25
  go_wp2_with fail
  go_ret
  go_light
  exact ⟨w.heap.size, rfl, Nat.le_refl _, ⟨Bk.new _ _ _, rfl⟩, (Below.refl _ _).alloc (Nat.le_refl _) _⟩
theorem same_nil_l (w : World) (g : Nat) :
    Calls Try.prog 26 #[.pointer none, .pointer (some ⟨g, 0, none⟩)] w fun e w' => e = .returned (.bool false) ∧ w = w' := by
  go_enter Try.func26, Try.ntmps26
  go_wp2_with fail
  go_ret
  exact ⟨rfl, rfl⟩
theorem same_nil_r (w : World) (g : Nat) :
    Calls Try.prog 26 #[.pointer (some ⟨g, 0, none⟩), .pointer none] w fun e w' => e = .returned (.bool false) ∧ w = w' := by
  go_enter Try.func26, Try.ntmps26
  go_wp2_with fail
  go_ret
  exact ⟨rfl, rfl⟩
theorem same_nil_both (w : World) :
    Calls Try.prog 26 #[.pointer none, .pointer none] w fun e w' => e = .returned (.bool true) ∧ w = w' := by
  go_enter Try.func26, Try.ntmps26
  go_wp2_with fail
  go_ret
  exact ⟨rfl, rfl⟩

def sameB (l s : Int) (ps : List Int) (l' s' : Int) (ps' : List Int) : Bool := decide (l = l') && decide (s = s') && decide (ps = ps')
set_option maxHeartbeats 800000 in
theorem same_any (w : World) (g g' : Nat) (l s l' s' : Int) (ps ps' : List Int) (h : PotAt w g l s ps) (h' : PotAt w g' l' s' ps') :
    Calls Try.prog 26 #[.pointer (some ⟨g, 0, none⟩), .pointer (some ⟨g', 0, none⟩)] w fun e w' => e = .returned (.bool (sameB l s ps l' s' ps')) ∧ ∃ q, w' = w.drewN q := by
  obtain ⟨a0, a1, a2, a3, a4, a5, a6, a7, rfl⟩ := list8 ps h.len
  obtain ⟨b0, b1, b2, b3, b4, b5, b6, b7, rfl⟩ := list8 ps' h'.len
  have c0 := h.bk.cell 0
  have c1 := h.bk.cell 1
  have c2 := h.bk.cell 2
  have c3 := h.bk.cell 3
  have c4 := h.bk.cell 4
  have c5 := h.bk.cell 5
  have c6 := h.bk.cell 6
  have c7 := h.bk.cell 7
  have c8 := h.bk.cell 8
  have c9 := h.bk.cell 9
  have d0 := h'.bk.cell 0
  have d1 := h'.bk.cell 1
  have d2 := h'.bk.cell 2
  have d3 := h'.bk.cell 3
  have d4 := h'.bk.cell 4
  have d5 := h'.bk.cell 5
  have d6 := h'.bk.cell 6
  have d7 := h'.bk.cell 7
  have d8 := h'.bk.cell 8
  have d9 := h'.bk.cell 9
  simp [potCells] at c0 c1 c2 c3 c4 c5 c6 c7 c8 c9 d0 d1 d2 d3 d4 d5 d6 d7 d8 d9
  clear h h'
  by_cases hl : l = l'
  · subst hl
    by_cases hs : s = s'
    · subst hs
      obtain ⟨i0, hi, hz0, hz1, hz2⟩ := info_parts Try.infoInt
      have heq := run_equalIn_ints (P := Try.prog) (k := .i64) 9998 68 3 8 Try.underlying68 Try.underlying3 hi hz1 [a0, a1, a2, a3, a4, a5, a6, a7] [b0, b1, b2, b3, b4, b5, b6, b7] rfl rfl
      simp only [List.map_cons, List.map_nil] at heq
      generalize hb : eqL [a0, a1, a2, a3, a4, a5, a6, a7] [b0, b1, b2, b3, b4, b5, b6, b7] = bb at heq
      have hb' : sameB l s [a0, a1, a2, a3, a4, a5, a6, a7] l s [b0, b1, b2, b3, b4, b5, b6, b7] = bb := by rw [← hb]; simp [sameB, eqL]
      rw [hb']
      clear hb hb'
      go_enter Try.func26, Try.ntmps26
      go_wp2_with fail
      go_quiet (fail)
      go_wp2_with fail
      go_ret
      exact ⟨rfl, _, rfl⟩
    · have hs0 : (s == s') = false := by simpa using hs
      have hb' : sameB l s [a0, a1, a2, a3, a4, a5, a6, a7] l s' [b0, b1, b2, b3, b4, b5, b6, b7] = false := by simp [sameB, hs]
      rw [hb']
      clear hb' hs
      go_enter Try.func26, Try.ntmps26
      go_wp2_with fail
      go_quiet (fail)
      go_wp2_with fail
      go_ret
      exact ⟨rfl, _, rfl⟩
  · have hl0 : (l == l') = false := by simpa using hl
    have hb' : sameB l s [a0, a1, a2, a3, a4, a5, a6, a7] l' s' [b0, b1, b2, b3, b4, b5, b6, b7] = false := by simp [sameB, hl]
    rw [hb']
    clear hb' hl
    go_enter Try.func26, Try.ntmps26
    go_wp2_with fail
    go_quiet (fail)
    go_wp2_with fail
    go_ret
    exact ⟨rfl, _, rfl⟩
end Go.Proofs.Ytfapechlnllfaaa
