/- fund.Fund: full, Lay, Phase, Back, Given, Held, Stakes, Clone, Same. -/
import Derived.Test.YtfapechlnllfaabF1
namespace Go.Proofs.Ytfapechlnllfaab
open Go.RowKit

def layE (l : List Int) (d : List Bool) (b seat amt now : Int) : Int :=
  if hasB l seat = false then 28 else if b < now then 19 else if d.getD seat.toNat false = true then 7 else if amt ≠ l.getD seat.toNat 0 then 22 else 0
def layD (l : List Int) (d : List Bool) (b seat amt now : Int) : List Bool := if layE l d b seat amt now = 0 then d.set seat.toNat true else d

theorem has_true {l : List Int} {i : Nat} (h : i < l.length) : hasB l i = true := by simp [hasB]; omega
theorem has_of {l : List Int} {s : Int} (h : hasB l s = true) : ∃ i : Nat, s = i ∧ i < l.length := by
  simp [hasB] at h; exact pair_nn h.1 h.2

theorem only_refl (w : World) (g : Nat) : w.grownBy w (some g) := World.grownBy.refl _ _
theorem lay_nil (w : World) (seat amt now : Int) :
    Calls Try.prog 13 #[.pointer none, .int .i64 seat, .int .i64 amt, .int .i64 now] w fun e w' => e = .returned (.int .i64 1) ∧ w = w' := by
  go_enter Try.func13, Try.ntmps13
  go_wp2_with fail
  go_ret
  exact ⟨rfl, rfl⟩

theorem lay_any (w : World) (g : Nat) (l : List Int) (d : List Bool) (b : Int) (h : FundAt w g l d b) (seat amt now : Int) :
    Calls Try.prog 13 #[.pointer (some ⟨g, 0, none⟩), .int .i64 seat, .int .i64 amt, .int .i64 now] w fun e w' => e = .returned (.int .i64 (layE l d b seat amt now)) ∧
      FundAt w' g l (layD l d b seat amt now) b ∧ w.grownBy w' (some g) := by
  have hb := h.cb
  have H := Lib.hid h; clear h
  by_cases hs : hasB l seat = true
  · obtain ⟨i, rfl, hi⟩ := has_of hs
    have hl := H.out.cs (List.getElem?_eq_getElem hi)
    have hi' : i < d.length := by have := H.out.ok.dl; omega
    have hd := H.out.cl (List.getElem?_eq_getElem hi')
    have fr := H.out.fr (9 + i)
    have n8 := H.out.ok.n8
    have hpost : ∀ c : Int, c ≠ 0 → layE l d b i amt now = c → Ending.returned (.int .i64 c) = .returned (.int .i64 (layE l d b i amt now)) ∧ FundAt w g l (layD l d b i amt now) b ∧ w.grownBy w (some g) := by
      rintro c hc rfl
      exact ⟨rfl, by rw [layD, if_neg hc]; exact H.out, only_refl _ _⟩
    have HP := Lib.hid hpost; clear hpost
    have hok : layE l d b i amt now = 0 → Ending.returned (.int .i64 0) = .returned (.int .i64 (layE l d b i amt now)) ∧ FundAt (w.setCell ⟨g, 9 + i, none⟩ (.bool true)) g l (layD l d b i amt now) b ∧ w.grownBy (w.setCell ⟨g, 9 + i, none⟩ (.bool true)) (some g) := by
      intro hc
      exact ⟨by rw [hc], by rw [layD, if_pos hc]; exact H.out.put hi true, only_set (only_refl _ _) _ _⟩
    have HO := Lib.hid hok; clear hok
    have hE : layE l d b i amt now = if b < now then 19 else if d[i] = true then 7 else if amt ≠ l[i] then 22 else 0 := by
      simp [layE, hs, hi, hi']
    have HE := Lib.hid hE; clear hE
    cases hdi : d[i]
    · rw [hdi] at hd
      go_enter Try.func13, Try.ntmps13
      go_wp2_with (go_at_call 28; refine (has_any _ _ _ _ _ H.out _).mono ?_; rintro e w' ⟨rfl, rfl⟩; rw [hs])
      all_goals go_ret
      all_goals go_light
      · exact HP.out 19 (by decide) (by rw [HE.out]; simp_all)
      · exact HP.out 22 (by decide) (by rw [HE.out]; simp_all)
      · exact HO.out (by rw [HE.out]; simp_all)
    · rw [hdi] at hd
      go_enter Try.func13, Try.ntmps13
      go_wp2_with (go_at_call 28; refine (has_any _ _ _ _ _ H.out _).mono ?_; rintro e w' ⟨rfl, rfl⟩; rw [hs])
      all_goals go_ret
      all_goals go_light
      · exact HP.out 19 (by decide) (by rw [HE.out]; simp_all)
      · exact HP.out 7 (by decide) (by rw [HE.out]; simp_all)
  · have hs' : hasB l seat = false := by simpa using hs
    have HE : layE l d b seat amt now = 28 := by simp [layE, hs']
    clear hs
    go_enter Try.func13, Try.ntmps13
    go_wp2_with (go_at_call 28; refine (has_any _ _ _ _ _ H.out _).mono ?_; rintro e w' ⟨rfl, rfl⟩; rw [hs'])
    go_ret
    go_light
    exact ⟨by rw [HE]; rfl, by rw [layD, if_neg (by rw [HE]; decide)]; exact H.out, only_refl _ _⟩

theorem fill_all (d : List Bool) (n : Nat) (hd : d.length = n) : eqB (fill8B d) (List.replicate n true ++ List.replicate (8 - n) false) = d.all id := by
  subst hd
  unfold eqB fill8B
  rw [Bool.eq_iff_iff]
  simp only [decide_eq_true_eq, List.append_cancel_right_eq, List.eq_replicate_iff, true_and, List.all_eq_true, id]
theorem list8 {α : Type} (l : List α) (h : l.length = 8) : ∃ a0 a1 a2 a3 a4 a5 a6 a7, l = [a0, a1, a2, a3, a4, a5, a6, a7] := by
  match l, h with
  | [a0, a1, a2, a3, a4, a5, a6, a7], _ => exact ⟨_, _, _, _, _, _, _, _, rfl⟩
theorem fundCells_ld8 {l : List Int} {d : List Bool} {b : Int} (h : l.length ≤ 8) (hd : d.length = l.length) {i : Nat} {x : Bool} (hx : (fill8B d)[i]? = some x) : (fundCells l d b)[9 + i]? = some (.bool x) := by
  have h2 := fill8I_len h
  have h4 := fill8B_len (d := d) (by omega)
  have h3 : i < 8 := by have := (List.getElem?_eq_some_iff.1 hx).1; omega
  have e : 9 + i = (8 + i) + 1 := by omega
  rw [e, fundCells, List.getElem?_cons_succ, List.getElem?_append_right (by simp [h2]), List.getElem?_append_left (by simp [h2, h4]; omega)]
  simp [hx, h2]
theorem FundAt.cl8 {w : World} {g : Nat} {l : List Int} {d : List Bool} {b : Int} (h : FundAt w g l d b) {i : Nat} {x : Bool} (hx : (fill8B d)[i]? = some x) : w.cell? ⟨g, 9 + i, none⟩ = some (.bool x) := by rw [h.bk.cell]; exact fundCells_ld8 h.ok.n8 h.ok.dl hx

set_option maxHeartbeats 400000 in
theorem full_any (w : World) (g : Nat) (l : List Int) (d : List Bool) (b : Int) (h : FundAt w g l d b) :
    Calls Try.prog 29 #[.pointer (some ⟨g, 0, none⟩)] w fun e w' => e = .returned (.bool (d.all id)) ∧ Below w.heap.size w w' := by
  have h0 := h.c0
  have hgl := h.lt
  have n8 := h.ok.n8
  have n2 := h.ok.n2
  have hdl := h.ok.dl
  obtain ⟨n, hn⟩ : ∃ n, n = l.length := ⟨_, rfl⟩
  rw [← hn] at h0 n8 n2 hdl
  have H := Lib.hid h; clear h
  have HN := Lib.hid hn; clear hn
  have HDL := Lib.hid hdl; clear hdl
  have hbk0 := Lib.hid (Bk.new' w 62 #[.bool false, .bool false, .bool false, .bool false, .bool false, .bool false, .bool false, .bool false] (xs := (List.replicate 0 true ++ List.replicate (8 - 0) false).map .bool) (by simp))
  have hbl0 := Lib.hid (below_new w (.cells #[.bool false, .bool false, .bool false, .bool false, .bool false, .bool false, .bool false, .bool false] 62))
  go_enter Try.func29, Try.ntmps29
  go_wp2_with fail
  go_loopw [9] (fun i wr => ∃ k : Nat, k ≤ n ∧ i = .int .i64 k ∧ Hid (Bk wr w.heap.size 62 ((List.replicate k true ++ List.replicate (8 - k) false).map .bool)) ∧ Below w.heap.size w wr) (fun i _ => n - (intOf i).toNat)
  case atStart => exact ⟨0, Nat.zero_le _, rfl, hbk0, hbl0.out⟩
  case round =>
    obtain ⟨k, hk, rfl, hbk, hbl⟩ := hrel
    by_cases hlt : k < n
    · have hst : wr.cell? ⟨w.heap.size, k, none⟩ = some (.bool false) := by
        rw [hbk.out.cell, List.getElem?_map, List.getElem?_append_right (by simp)]
        simp [List.getElem?_replicate]; omega
      have hfr : wr.frozen? ⟨w.heap.size, k, none⟩ = false := hbk.out.frozen k
      go_wp2_with fail
      go_roundw
      case rel =>
        refine ⟨k + 1, by omega, by go_num, ?_, hbl.setCell (Nat.le_refl _) _⟩
        have e1 := hbk.out.set_ k (.bool true)
        rw [← List.map_set] at e1
        have e2 : (List.replicate k true ++ List.replicate (8 - k) false).set k true = List.replicate (k + 1) true ++ List.replicate (8 - (k + 1)) false := by
          have e3 : 8 - k = (8 - (k + 1)) + 1 := by omega
          rw [List.set_append, if_neg (by simp), List.length_replicate, Nat.sub_self, e3, List.replicate_succ, List.set_cons_zero, List.replicate_succ', List.append_assoc]
          rfl
        rw [e2] at e1
        exact e1
      case measure => simp [intOf]; omega
    · obtain rfl : k = n := by omega
      have e1 := fill_all d k HDL.out
      have hf := (H.out.later hbl)
      have hb8 := hbk.out
      obtain ⟨a0, a1, a2, a3, a4, a5, a6, a7, ha⟩ := list8 (fill8B d) (fill8B_len (by have := HDL.out; omega))
      obtain ⟨b0, b1, b2, b3, b4, b5, b6, b7, hb⟩ := list8 (List.replicate k true ++ List.replicate (8 - k) false) (by simp; omega)
      rw [ha, hb] at e1
      rw [hb] at hb8
      have c0 := hf.cl8 (i := 0) (x := a0) (by rw [ha]; rfl)
      have c1 := hf.cl8 (i := 1) (x := a1) (by rw [ha]; rfl)
      have c2 := hf.cl8 (i := 2) (x := a2) (by rw [ha]; rfl)
      have c3 := hf.cl8 (i := 3) (x := a3) (by rw [ha]; rfl)
      have c4 := hf.cl8 (i := 4) (x := a4) (by rw [ha]; rfl)
      have c5 := hf.cl8 (i := 5) (x := a5) (by rw [ha]; rfl)
      have c6 := hf.cl8 (i := 6) (x := a6) (by rw [ha]; rfl)
      have c7 := hf.cl8 (i := 7) (x := a7) (by rw [ha]; rfl)
      have d0 := hb8.cell 0
      have d1 := hb8.cell 1
      have d2 := hb8.cell 2
      have d3 := hb8.cell 3
      have d4 := hb8.cell 4
      have d5 := hb8.cell 5
      have d6 := hb8.cell 6
      have d7 := hb8.cell 7
      simp at c0 c1 c2 c3 c4 c5 c6 c7 d0 d1 d2 d3 d4 d5 d6 d7
      obtain ⟨i0, hi, hz0, hz1, hz2⟩ := info_parts Try.infoBool
      have heq := run_equalIn_bools (P := Try.prog) 9998 62 4 8 Try.underlying62 Try.underlying4 hi hz1 [a0, a1, a2, a3, a4, a5, a6, a7] [b0, b1, b2, b3, b4, b5, b6, b7] rfl rfl
      rw [e1] at heq
      simp only [List.map_cons, List.map_nil] at heq
      obtain ⟨bb, hbb⟩ : ∃ bb, d.all id = bb := ⟨_, rfl⟩
      rw [hbb] at heq
      have HBB := Lib.hid hbb; clear hbb
      clear e1 ha hb hb8 hf hbk hbk0 hbl0
      go_wp2_with fail
      go_quiet (fail)
      go_wp2_with fail
      go_ret
      exact ⟨by rw [HBB.out]; rfl, by simpa using hbl.trans (below_draws _ _ _)⟩

/-! ### Back, Phase, Given -/
def backE (l : List Int) (d : List Bool) (seat : Int) : Int :=
  if hasB l seat = false then 28 else if d.getD seat.toNat false = false then 9 else if d.all id then 10 else 0
def backV (l : List Int) (d : List Bool) (seat : Int) : Int := if backE l d seat = 0 then l.getD seat.toNat 0 else 0
def backD (l : List Int) (d : List Bool) (seat : Int) : List Bool := if backE l d seat = 0 then d.set seat.toNat false else d

theorem back_nil (w : World) (seat now : Int) :
    Calls Try.prog 18 #[.pointer none, .int .i64 seat, .int .i64 now] w fun e w' => e = .returned (.tuple #[.int .i64 0, .int .i64 1]) ∧ w = w' := by
  go_enter Try.func18, Try.ntmps18
  go_wp2_with fail
  go_ret2
  exact ⟨rfl, rfl⟩

set_option maxHeartbeats 400000 in
theorem back_any (w : World) (g : Nat) (l : List Int) (d : List Bool) (b : Int) (h : FundAt w g l d b) (seat now : Int) :
    Calls Try.prog 18 #[.pointer (some ⟨g, 0, none⟩), .int .i64 seat, .int .i64 now] w fun e w' => e = .returned (.tuple #[.int .i64 (backV l d seat), .int .i64 (backE l d seat)]) ∧
      FundAt w' g l (backD l d seat) b ∧ w.grownBy w' (some g) := by
  have H := Lib.hid h; clear h
  by_cases hs : hasB l seat = true
  · obtain ⟨i, rfl, hi⟩ := has_of hs
    have hl := H.out.cs (List.getElem?_eq_getElem hi)
    have hi' : i < d.length := by have := H.out.ok.dl; omega
    have hd := H.out.cl (List.getElem?_eq_getElem hi')
    have fr := H.out.fr (9 + i)
    have n8 := H.out.ok.n8
    have hE : backE l d i = if d[i] = false then 9 else if d.all id then 10 else 0 := by
      simp [backE, hs, hi']
    have hpost : ∀ c : Int, c ≠ 0 → backE l d i = c → ∀ w', Below w.heap.size w w' → Ending.returned (.tuple #[.int .i64 0, .int .i64 c]) = .returned (.tuple #[.int .i64 (backV l d i), .int .i64 (backE l d i)]) ∧ FundAt w' g l (backD l d i) b ∧ w.grownBy w' (some g) := by
      rintro c hc rfl w' hb
      exact ⟨by rw [backV, if_neg hc], by rw [backD, if_neg hc]; exact H.out.later hb, only_below (only_refl _ _) hb⟩
    have HP := Lib.hid hpost; clear hpost
    have hok : backE l d i = 0 → ∀ w', Below w.heap.size w w' → Ending.returned (.tuple #[.int .i64 l[i], .int .i64 0]) = .returned (.tuple #[.int .i64 (backV l d i), .int .i64 (backE l d i)]) ∧ FundAt (w'.setCell ⟨g, 9 + i, none⟩ (.bool false)) g l (backD l d i) b ∧ w.grownBy (w'.setCell ⟨g, 9 + i, none⟩ (.bool false)) (some g) := by
      intro hc w' hb
      exact ⟨by rw [backV, if_pos hc, hc]; simp [hi], by rw [backD, if_pos hc]; exact (H.out.later hb).put hi false, only_set (only_below (only_refl _ _) hb) _ _⟩
    have HO := Lib.hid hok; clear hok
    have HE := Lib.hid hE; clear hE
    cases hdi : d[i]
    · rw [hdi] at hd
      go_enter Try.func18, Try.ntmps18
      go_wp2_with (go_at_call 28; refine (has_any _ _ _ _ _ H.out _).mono ?_; rintro e w' ⟨rfl, rfl⟩; rw [hs])
      go_ret2
      go_light
      exact HP.out 9 (by decide) (by rw [HE.out]; simp_all) _ (Below.refl _ _)
    · rw [hdi] at hd
      cases hall : d.all id
      · go_enter Try.func18, Try.ntmps18
        go_wp2_with (first
          | (go_at_call 28; refine (has_any _ _ _ _ _ H.out _).mono ?_; rintro e w' ⟨rfl, rfl⟩; rw [hs])
          | (go_at_call 29; refine (full_any _ _ _ _ _ H.out).mono ?_; rintro e w' ⟨rfl, hbl⟩; rw [hall]; have hc1 := (H.out.later hbl).cs (List.getElem?_eq_getElem hi); have hc2 := (H.out.later hbl).cl (List.getElem?_eq_getElem hi'); have hc3 := (H.out.later hbl).fr (9 + i)))
        go_ret2
        go_light
        exact HO.out (by rw [HE.out]; simp_all) _ hbl
      · go_enter Try.func18, Try.ntmps18
        go_wp2_with (first
          | (go_at_call 28; refine (has_any _ _ _ _ _ H.out _).mono ?_; rintro e w' ⟨rfl, rfl⟩; rw [hs])
          | (go_at_call 29; refine (full_any _ _ _ _ _ H.out).mono ?_; rintro e w' ⟨rfl, hbl⟩; rw [hall]))
        go_ret2
        go_light
        exact HP.out 10 (by decide) (by rw [HE.out]; simp_all) _ hbl
  · have hs' : hasB l seat = false := by simpa using hs
    have HE : backE l d seat = 28 := by simp [backE, hs']
    clear hs
    go_enter Try.func18, Try.ntmps18
    go_wp2_with (go_at_call 28; refine (has_any _ _ _ _ _ H.out _).mono ?_; rintro e w' ⟨rfl, rfl⟩; rw [hs'])
    go_ret2
    go_light
    exact ⟨by rw [backV, HE]; rfl, by rw [backD, if_neg (by rw [HE]; decide)]; exact H.out, only_refl _ _⟩

def phaseG (d : List Bool) (b now : Int) : Int := if d.all id then 1 else if b < now then 2 else 0
theorem phase_nil (w : World) (now : Int) :
    Calls Try.prog 15 #[.pointer none, .int .i64 now] w fun e w' => e = .returned (.int .i64 2) ∧ w = w' := by
  go_enter Try.func15, Try.ntmps15
  go_wp2_with fail
  go_ret
  exact ⟨rfl, rfl⟩
theorem phase_any (w : World) (g : Nat) (l : List Int) (d : List Bool) (b : Int) (h : FundAt w g l d b) (now : Int) :
    Calls Try.prog 15 #[.pointer (some ⟨g, 0, none⟩), .int .i64 now] w fun e w' => e = .returned (.int .i64 (phaseG d b now)) ∧ Below w.heap.size w w' := by
  have hgl := h.lt
  have H := Lib.hid h; clear h
  go_enter Try.func15, Try.ntmps15
  go_wp2_with (go_at_call 29; refine (full_any _ _ _ _ _ H.out).mono ?_; rintro e w' ⟨rfl, hbl⟩; have hc1 := (H.out.later hbl).cb)
  all_goals go_ret
  all_goals go_light
  all_goals exact ⟨by simp_all [phaseG], hbl⟩

def givenG (l : List Int) (d : List Bool) (seat : Int) : Int := if hasB l seat && d.getD seat.toNat false then l.getD seat.toNat 0 else 0
theorem given_nil (w : World) (seat : Int) :
    Calls Try.prog 19 #[.pointer none, .int .i64 seat] w fun e w' => e = .returned (.int .i64 0) ∧ w = w' := by
  go_enter Try.func19, Try.ntmps19
  go_wp2_with fail
  go_ret
  exact ⟨rfl, rfl⟩
theorem given_any (w : World) (g : Nat) (l : List Int) (d : List Bool) (b : Int) (h : FundAt w g l d b) (seat : Int) :
    Calls Try.prog 19 #[.pointer (some ⟨g, 0, none⟩), .int .i64 seat] w fun e w' => e = .returned (.int .i64 (givenG l d seat)) ∧ w = w' := by
  have H := Lib.hid h; clear h
  by_cases hs : hasB l seat = true
  · obtain ⟨i, rfl, hi⟩ := has_of hs
    have hl := H.out.cs (List.getElem?_eq_getElem hi)
    have hi' : i < d.length := by have := H.out.ok.dl; omega
    have hd := H.out.cl (List.getElem?_eq_getElem hi')
    have n8 := H.out.ok.n8
    have hE : givenG l d i = if d[i] then l[i] else 0 := by simp [givenG, hs, hi', hi]
    have HE := Lib.hid hE; clear hE
    cases hdi : d[i]
    all_goals
      rw [hdi] at hd
      go_enter Try.func19, Try.ntmps19
      go_wp2_with (go_at_call 28; refine (has_any _ _ _ _ _ H.out _).mono ?_; rintro e w' ⟨rfl, rfl⟩; rw [hs])
      go_ret
      go_light
      exact ⟨by rw [HE.out, hdi]; rfl, rfl⟩
  · have hs' : hasB l seat = false := by simpa using hs
    have HE : givenG l d seat = 0 := by simp [givenG, hs']
    clear hs
    go_enter Try.func19, Try.ntmps19
    go_wp2_with (go_at_call 28; refine (has_any _ _ _ _ _ H.out _).mono ?_; rintro e w' ⟨rfl, rfl⟩; rw [hs'])
    go_ret
    go_light
    exact ⟨by rw [HE]; rfl, rfl⟩
end Go.Proofs.Ytfapechlnllfaab
