/- What a thing has; whether it is right. -/
import Derived.Test.YthibihjblodfmaaQ4
namespace Go.Proofs.Ythibihjblodfmaa
open Go.RowKit

/-- Its slices: the position, the move, the signature. -/
structure Sls (w : World) (B : Nat) (A1 A2 A3 : Option Addr) (N1 N2 N3 : Nat) (ps qs ss : List Int) : Prop where
  p : Sl w B 1 A1 N1 (ps.map (.int .u8))
  q : Sl w B 1 A2 N2 (qs.map (.int .u8))
  s : Sl w B 1 A3 N3 (ss.map (.int .u8))
  po : ByOk ps
  qo : ByOk qs
  so : ByOk ss
theorem Sls.below {w w' : World} {B : Nat} {A1 A2 A3 : Option Addr} {N1 N2 N3 : Nat} {ps qs ss : List Int} (h : Sls w B A1 A2 A3 N1 N2 N3 ps qs ss) (hb : Below B w w') : Sls w' B A1 A2 A3 N1 N2 N3 ps qs ss := ⟨h.p.below hb, h.q.below hb, h.s.below hb, h.po, h.qo, h.so⟩
theorem Sls.more {w : World} {B B' : Nat} {A1 A2 A3 : Option Addr} {N1 N2 N3 : Nat} {ps qs ss : List Int} (h : Sls w B A1 A2 A3 N1 N2 N3 ps qs ss) (hb : B ≤ B') : Sls w B' A1 A2 A3 N1 N2 N3 ps qs ss := ⟨h.p.more hb, h.q.more hb, h.s.more hb, h.po, h.qo, h.so⟩
theorem Sls.later {w w' : World} {A1 A2 A3 : Option Addr} {N1 N2 N3 : Nat} {ps qs ss : List Int} (h : Sls w w.heap.size A1 A2 A3 N1 N2 N3 ps qs ss) (hb : Below w.heap.size w w') : Sls w' w'.heap.size A1 A2 A3 N1 N2 N3 ps qs ss := (h.below hb).more hb.size
theorem z_st (W : World) : (Instr.build 31 #[]).run Try.prog W = .ok (.agg (staC 0 zeroD (.slice none 0 0)).toArray) W := by kernel_rfl
theorem z_ac (W : World) : (Instr.build 33 #[]).run Try.prog W = .ok (.agg (actC 0 zeroD zeroD (.slice none 0 0)).toArray) W := by kernel_rfl

def aloneB (k n m : Int) (t u v ps qs : List Int) : Bool := if k = 0 then eqL u zeroD && (m == 0) && eqL v zeroD && eqL qs [] else eqL t zeroD && (n == 0) && eqL ps []
def RetHas (k n m : Int) (p q : Value) (b : Bool) (w : World) (e : Ending) (w' : World) : Prop :=
  e = .returned (.tuple #[.int .i64 (if k = 0 then n else m), if k = 0 then p else q, .bool b]) ∧ Below w.heap.size w w'
theorem ret_has {a b : Int} {p q : Value} {x y : Bool} (h1 : a = b) (h2 : p = q) (h3 : x = y) : Ending.returned (.tuple #[.int .i64 a, p, .bool x]) = .returned (.tuple #[.int .i64 b, q, .bool y]) := by rw [h1, h2, h3]
set_option maxRecDepth 20000 in
set_option maxHeartbeats 4000000 in
theorem has_any (w : World) (k n m : Int) (t u v : List Int) (ht : DgOk t) (hu : DgOk u) (hv : DgOk v) (A1 A2 A3 : Option Addr) (N1 N2 N3 C1 C2 C3 : Nat) (ps qs ss : List Int) (hs : Sls w w.heap.size A1 A2 A3 N1 N2 N3 ps qs ss) :
    Calls Try.prog 64 #[.agg (thC k n m t u v (.slice A1 N1 C1) (.slice A2 N2 C2) (.slice A3 N3 C3)).toArray] w (RetHas k n m (.slice A1 N1 C1) (.slice A2 N2 C2) (aloneB k n m t u v ps qs) w) := by
  obtain ⟨X, hX⟩ : ∃ X, (thC k n m t u v (.slice A1 N1 C1) (.slice A2 N2 C2) (.slice A3 N3 C3)).toArray = X := ⟨_, rfl⟩
  obtain ⟨w1, hw1⟩ : ∃ w1, w.alloc (.cells X 35) = w1 := ⟨_, rfl⟩
  have hb1 : Below w.heap.size w w1 := hw1 ▸ below_new w _
  have kx : Bk w1 w.heap.size 35 (thC k n m t u v (.slice A1 N1 C1) (.slice A2 N2 C2) (.slice A3 N3 C3)) := hw1 ▸ Bk.new' w _ X (by rw [← hX])
  have c0 := (th_mem ht hu hv kx).c0
  have HW := Lib.hid hw1; have HB := Lib.hid hb1; have HKX := Lib.hid kx; have HT := Lib.hid ht; have HU := Lib.hid hu; have HV := Lib.hid hv; have HS := Lib.hid (hs.later hb1)
  have HST : Hid ((Try.prog.info? 31).map (·.size) = some (staC n t (.slice A1 N1 C1)).length) := by show _ = _; rw [staC_len ht]; exact st_size
  have HAC : Hid ((Try.prog.info? 33).map (·.size) = some (actC m u v (.slice A2 N2 C2)).length) := by show _ = _; rw [actC_len hu hv]; exact ac_size
  rw [hX]
  clear hX hw1 hb1 kx ht hu hv hs
  by_cases hk : k = 0
  · have hk1 : (k == 0) = true := by simp [hk]
    have HK := Lib.hid hk
    have HAL : Hid (aloneB k n m t u v ps qs = (eqL u zeroD && (m == 0) && eqL v zeroD && eqL qs [])) := by show _ = _; rw [aloneB, if_pos hk]
    clear hk
    go_enter Try.func64, Try.ntmps64
    go_upto_region 1 with fail
    rw [HW.out]
    go_wp2_with fail
    refine wp_region_held_drew (S := fun w' => Bk w' w.heap.size 35 (thC k n m t u v (.slice A1 N1 C1) (.slice A2 N2 C2) (.slice A3 N3 C3))) (by kernel_rfl) (Bk.drew HKX.out) (fun hHeld => ?_)
    refine wpAnyH_take (i := 0) (v := ?_) rfl (by kernel_rfl) (by kernel_rfl) (by kernel_rfl) (fun _ _ _ h => h) (Or.inl ⟨by rfl, ?_⟩) (by assumption) ?_
    rotate_left
    · intro w hSw
      (try dsimp only at hSw)
      go_simp
      try with_reducible rfl
    try simp only [Act.put, List.setIfInBounds_toArray, List.set_cons_zero, List.set_cons_succ, List.getElem_toArray, List.getElem_cons_zero]
    refine wpAnyH_take (i := 1) (v := ?_) rfl (by kernel_rfl) (by kernel_rfl) (by kernel_rfl) (fun _ _ _ h => h) (Or.inl ⟨by rfl, ?_⟩) (by assumption) ?_
    rotate_left
    · intro w hSw
      (try dsimp only at hSw)
      go_simp
      try with_reducible rfl
    try simp only [Act.put, List.setIfInBounds_toArray, List.set_cons_zero, List.set_cons_succ, List.getElem_toArray, List.getElem_cons_zero, List.getElem_cons_succ]
    refine wpAnyH_take (i := 2) (v := ?_) rfl (by kernel_rfl) (by kernel_rfl) (by kernel_rfl) (fun _ _ _ h => h) (Or.inl ⟨by rfl, ?_⟩) (by assumption) ?_
    rotate_left
    · intro w hSw
      have hcell := (th_mem HT.out HU.out HV.out hSw).c9
      clear hSw
      go_simp
      try with_reducible rfl
    try simp only [Act.put, List.setIfInBounds_toArray, List.set_cons_zero, List.set_cons_succ, List.getElem_toArray, List.getElem_cons_zero, List.getElem_cons_succ]
    refine wpAnyH_take (i := 3) (v := ?_) rfl (by kernel_rfl) (by kernel_rfl) (by kernel_rfl) (fun _ _ _ h => h) (Or.inl ⟨by rfl, ?_⟩) (by assumption) ?_
    rotate_left
    · intro w hSw
      (try dsimp only at hSw)
      go_simp
      try with_reducible rfl
    try simp only [Act.put, List.setIfInBounds_toArray, List.set_cons_zero, List.set_cons_succ, List.getElem_toArray, List.getElem_cons_zero, List.getElem_cons_succ]
    refine wpAnyH_take (i := 4) (v := ?_) rfl (by kernel_rfl) (by kernel_rfl) (by kernel_rfl) (fun _ _ _ h => h) (Or.inl ⟨by rfl, ?_⟩) (by assumption) ?_
    rotate_left
    · intro w hSw
      (try dsimp only at hSw)
      go_simp
      try with_reducible rfl
    try simp only [Act.put, List.setIfInBounds_toArray, List.set_cons_zero, List.set_cons_succ, List.getElem_toArray, List.getElem_cons_zero, List.getElem_cons_succ]
    refine wpAnyH_take (i := 5) (v := ?_) rfl (by kernel_rfl) (by kernel_rfl) (by kernel_rfl) (fun _ _ _ h => h) (Or.inl ⟨by rfl, ?_⟩) (by assumption) ?_
    rotate_left
    · intro w hSw
      have hcell := (th_mem HT.out HU.out HV.out hSw).c10
      clear hSw
      go_simp
      try with_reducible rfl
    try simp only [Act.put, List.setIfInBounds_toArray, List.set_cons_zero, List.set_cons_succ, List.getElem_toArray, List.getElem_cons_zero, List.getElem_cons_succ]
    refine wpAnyH_take (i := 6) (v := ?_) rfl (by kernel_rfl) (by kernel_rfl) (by kernel_rfl) (fun _ _ _ h => h) (Or.inl ⟨by rfl, ?_⟩) (by assumption) ?_
    rotate_left
    · intro w hSw
      (try dsimp only at hSw)
      go_simp
      try with_reducible rfl
    try simp only [Act.put, List.setIfInBounds_toArray, List.set_cons_zero, List.set_cons_succ, List.getElem_toArray, List.getElem_cons_zero, List.getElem_cons_succ]
    refine wpAnyH_take (i := 7) (v := .agg (List.toArray (actC m u v (.slice A2 N2 C2)))) rfl (by kernel_rfl) (by kernel_rfl) (by kernel_rfl) (fun _ _ _ h => h) (yieldsIf_load_mid (by rfl) _ _ rfl _ _ rfl (actC m u v (.slice A2 N2 C2)) _ (fun w hSw => (th_mem HT.out HU.out HV.out hSw).rA) Try.underlying33 rfl (HAC.out)) (by assumption) ?_
    try simp only [Act.put, List.setIfInBounds_toArray, List.set_cons_zero, List.set_cons_succ, List.getElem_toArray, List.getElem_cons_zero, List.getElem_cons_succ]
    refine wpAnyH_take (i := 8) (v := .agg (List.toArray (actC 0 zeroD zeroD (.slice none 0 0)))) rfl (by kernel_rfl) (by kernel_rfl) (by kernel_rfl) (fun _ _ _ h => h) (yieldsIf_build (by rfl) _ _ rfl #[] (by simp [Act.eval]) _ (z_ac)) (by assumption) ?_
    try simp only [Act.put, List.setIfInBounds_toArray, List.set_cons_zero, List.set_cons_succ, List.getElem_toArray, List.getElem_cons_zero, List.getElem_cons_succ]
    refine wpAnyH_ready (rs := [9]) (by kernel_rfl) (by simp) ?_
    refine AllReadyH.cons rfl (fun K hK => ?_) AllReadyH.nil
    go_simp
    (go_at_call 80; refine (sameAct_any _ m 0 u zeroD v zeroD HU.out zero_ok HV.out zero_ok A2 none N2 0 C2 0 qs [] HS.out.qo (fun b hb => by cases hb) HS.out.q.drew Sl.nil).mono ?_; rintro e w2 ⟨rfl, hb2⟩; have HB2 := Lib.hid (HB.out.trans (((below_draws w1 w1.heap.size 1).trans hb2).mono HB.out.size)))
    refine hK.out _ _ ((HKX.out.drew.later hb2)) (fun hHeld => ?_)
    clear hK K
    try simp only [Act.put, List.setIfInBounds_toArray, List.set_cons_zero, List.set_cons_succ, List.getElem_toArray, List.getElem_cons_zero, List.getElem_cons_succ]
    refine wpAnyH_take (i := 10) (v := ?_) rfl (by kernel_rfl) (by kernel_rfl) (by kernel_rfl) (fun _ _ _ h => h) (Or.inl ⟨by rfl, ?_⟩) (by assumption) ?_
    rotate_left
    · intro w hSw
      (try dsimp only at hSw)
      go_simp
      try with_reducible rfl
    try simp only [Act.put, List.setIfInBounds_toArray, List.set_cons_zero, List.set_cons_succ, List.getElem_toArray, List.getElem_cons_zero, List.getElem_cons_succ]
    refine wpAnyH_take (i := 11) (v := ?_) rfl (by kernel_rfl) (by kernel_rfl) (by kernel_rfl) (fun _ _ _ h => h) (Or.inl ⟨by rfl, ?_⟩) (by assumption) ?_
    rotate_left
    · intro w hSw
      (try dsimp only at hSw)
      go_simp
      try with_reducible rfl
    try simp only [Act.put, List.setIfInBounds_toArray, List.set_cons_zero, List.set_cons_succ, List.getElem_toArray, List.getElem_cons_zero, List.getElem_cons_succ]
    refine wpAnyH_take (i := 12) (v := ?_) rfl (by kernel_rfl) (by kernel_rfl) (by kernel_rfl) (fun _ _ _ h => h) (Or.inl ⟨by rfl, ?_⟩) (by assumption) ?_
    rotate_left
    · intro w hSw
      (try dsimp only at hSw)
      go_simp
      try with_reducible rfl
    try simp only [Act.put, List.setIfInBounds_toArray, List.set_cons_zero, List.set_cons_succ, List.getElem_toArray, List.getElem_cons_zero, List.getElem_cons_succ]
    refine wpAnyH_done (by kernel_rfl) ?_ _
    go_wp2_with fail
    go_ret3
    exact ⟨ret_has (by rw [if_pos HK.out] <;> rfl) (by rw [if_pos HK.out] <;> rfl) (by rw [HAL.out] <;> rfl), HB2.out⟩
  · have hk1 : (k == 0) = false := by simp [hk]
    have HK := Lib.hid hk
    have HAL : Hid (aloneB k n m t u v ps qs = (eqL t zeroD && (n == 0) && eqL ps [])) := by show _ = _; rw [aloneB, if_neg hk]
    clear hk
    go_enter Try.func64, Try.ntmps64
    go_upto_region 1 with fail
    rw [HW.out]
    go_wp2_with fail
    refine wp_region_held_drew (S := fun w' => Bk w' w.heap.size 35 (thC k n m t u v (.slice A1 N1 C1) (.slice A2 N2 C2) (.slice A3 N3 C3))) (by kernel_rfl) (Bk.drew HKX.out) (fun hHeld => ?_)
    refine wpAnyH_take (i := 0) (v := ?_) rfl (by kernel_rfl) (by kernel_rfl) (by kernel_rfl) (fun _ _ _ h => h) (Or.inl ⟨by rfl, ?_⟩) (by assumption) ?_
    rotate_left
    · intro w hSw
      (try dsimp only at hSw)
      go_simp
      try with_reducible rfl
    try simp only [Act.put, List.setIfInBounds_toArray, List.set_cons_zero, List.set_cons_succ, List.getElem_toArray, List.getElem_cons_zero]
    refine wpAnyH_take (i := 1) (v := ?_) rfl (by kernel_rfl) (by kernel_rfl) (by kernel_rfl) (fun _ _ _ h => h) (Or.inl ⟨by rfl, ?_⟩) (by assumption) ?_
    rotate_left
    · intro w hSw
      (try dsimp only at hSw)
      go_simp
      try with_reducible rfl
    try simp only [Act.put, List.setIfInBounds_toArray, List.set_cons_zero, List.set_cons_succ, List.getElem_toArray, List.getElem_cons_zero, List.getElem_cons_succ]
    refine wpAnyH_take (i := 2) (v := ?_) rfl (by kernel_rfl) (by kernel_rfl) (by kernel_rfl) (fun _ _ _ h => h) (Or.inl ⟨by rfl, ?_⟩) (by assumption) ?_
    rotate_left
    · intro w hSw
      have hcell := (th_mem HT.out HU.out HV.out hSw).c19
      clear hSw
      go_simp
      try with_reducible rfl
    try simp only [Act.put, List.setIfInBounds_toArray, List.set_cons_zero, List.set_cons_succ, List.getElem_toArray, List.getElem_cons_zero, List.getElem_cons_succ]
    refine wpAnyH_take (i := 3) (v := ?_) rfl (by kernel_rfl) (by kernel_rfl) (by kernel_rfl) (fun _ _ _ h => h) (Or.inl ⟨by rfl, ?_⟩) (by assumption) ?_
    rotate_left
    · intro w hSw
      (try dsimp only at hSw)
      go_simp
      try with_reducible rfl
    try simp only [Act.put, List.setIfInBounds_toArray, List.set_cons_zero, List.set_cons_succ, List.getElem_toArray, List.getElem_cons_zero, List.getElem_cons_succ]
    refine wpAnyH_take (i := 4) (v := ?_) rfl (by kernel_rfl) (by kernel_rfl) (by kernel_rfl) (fun _ _ _ h => h) (Or.inl ⟨by rfl, ?_⟩) (by assumption) ?_
    rotate_left
    · intro w hSw
      (try dsimp only at hSw)
      go_simp
      try with_reducible rfl
    try simp only [Act.put, List.setIfInBounds_toArray, List.set_cons_zero, List.set_cons_succ, List.getElem_toArray, List.getElem_cons_zero, List.getElem_cons_succ]
    refine wpAnyH_take (i := 5) (v := ?_) rfl (by kernel_rfl) (by kernel_rfl) (by kernel_rfl) (fun _ _ _ h => h) (Or.inl ⟨by rfl, ?_⟩) (by assumption) ?_
    rotate_left
    · intro w hSw
      have hcell := (th_mem HT.out HU.out HV.out hSw).c28
      clear hSw
      go_simp
      try with_reducible rfl
    try simp only [Act.put, List.setIfInBounds_toArray, List.set_cons_zero, List.set_cons_succ, List.getElem_toArray, List.getElem_cons_zero, List.getElem_cons_succ]
    refine wpAnyH_take (i := 6) (v := ?_) rfl (by kernel_rfl) (by kernel_rfl) (by kernel_rfl) (fun _ _ _ h => h) (Or.inl ⟨by rfl, ?_⟩) (by assumption) ?_
    rotate_left
    · intro w hSw
      (try dsimp only at hSw)
      go_simp
      try with_reducible rfl
    try simp only [Act.put, List.setIfInBounds_toArray, List.set_cons_zero, List.set_cons_succ, List.getElem_toArray, List.getElem_cons_zero, List.getElem_cons_succ]
    refine wpAnyH_take (i := 7) (v := .agg (List.toArray (staC n t (.slice A1 N1 C1)))) rfl (by kernel_rfl) (by kernel_rfl) (by kernel_rfl) (fun _ _ _ h => h) (yieldsIf_load_mid (by rfl) _ _ rfl _ _ rfl (staC n t (.slice A1 N1 C1)) _ (fun w hSw => (th_mem HT.out HU.out HV.out hSw).rS) Try.underlying31 rfl (HST.out)) (by assumption) ?_
    try simp only [Act.put, List.setIfInBounds_toArray, List.set_cons_zero, List.set_cons_succ, List.getElem_toArray, List.getElem_cons_zero, List.getElem_cons_succ]
    refine wpAnyH_take (i := 8) (v := .agg (List.toArray (staC 0 zeroD (.slice none 0 0)))) rfl (by kernel_rfl) (by kernel_rfl) (by kernel_rfl) (fun _ _ _ h => h) (yieldsIf_build (by rfl) _ _ rfl #[] (by simp [Act.eval]) _ (z_st)) (by assumption) ?_
    try simp only [Act.put, List.setIfInBounds_toArray, List.set_cons_zero, List.set_cons_succ, List.getElem_toArray, List.getElem_cons_zero, List.getElem_cons_succ]
    refine wpAnyH_ready (rs := [9]) (by kernel_rfl) (by simp) ?_
    refine AllReadyH.cons rfl (fun K hK => ?_) AllReadyH.nil
    go_simp
    (go_at_call 79; refine (sameState_any _ n 0 t zeroD HT.out zero_ok A1 none N1 0 C1 0 ps [] HS.out.po (fun b hb => by cases hb) HS.out.p.drew Sl.nil).mono ?_; rintro e w2 ⟨rfl, hb2⟩; have HB2 := Lib.hid (HB.out.trans (((below_draws w1 w1.heap.size 1).trans hb2).mono HB.out.size)))
    refine hK.out _ _ ((HKX.out.drew.later hb2)) (fun hHeld => ?_)
    clear hK K
    try simp only [Act.put, List.setIfInBounds_toArray, List.set_cons_zero, List.set_cons_succ, List.getElem_toArray, List.getElem_cons_zero, List.getElem_cons_succ]
    refine wpAnyH_take (i := 10) (v := ?_) rfl (by kernel_rfl) (by kernel_rfl) (by kernel_rfl) (fun _ _ _ h => h) (Or.inl ⟨by rfl, ?_⟩) (by assumption) ?_
    rotate_left
    · intro w hSw
      (try dsimp only at hSw)
      go_simp
      try with_reducible rfl
    try simp only [Act.put, List.setIfInBounds_toArray, List.set_cons_zero, List.set_cons_succ, List.getElem_toArray, List.getElem_cons_zero, List.getElem_cons_succ]
    refine wpAnyH_take (i := 11) (v := ?_) rfl (by kernel_rfl) (by kernel_rfl) (by kernel_rfl) (fun _ _ _ h => h) (Or.inl ⟨by rfl, ?_⟩) (by assumption) ?_
    rotate_left
    · intro w hSw
      (try dsimp only at hSw)
      go_simp
      try with_reducible rfl
    try simp only [Act.put, List.setIfInBounds_toArray, List.set_cons_zero, List.set_cons_succ, List.getElem_toArray, List.getElem_cons_zero, List.getElem_cons_succ]
    refine wpAnyH_take (i := 12) (v := ?_) rfl (by kernel_rfl) (by kernel_rfl) (by kernel_rfl) (fun _ _ _ h => h) (Or.inl ⟨by rfl, ?_⟩) (by assumption) ?_
    rotate_left
    · intro w hSw
      (try dsimp only at hSw)
      go_simp
      try with_reducible rfl
    try simp only [Act.put, List.setIfInBounds_toArray, List.set_cons_zero, List.set_cons_succ, List.getElem_toArray, List.getElem_cons_zero, List.getElem_cons_succ]
    refine wpAnyH_done (by kernel_rfl) ?_ _
    go_wp2_with fail
    go_ret3
    exact ⟨ret_has (by rw [if_neg HK.out] <;> rfl) (by rw [if_neg HK.out] <;> rfl) (by rw [HAL.out] <;> rfl), HB2.out⟩

/-- What is wrong with a thing. -/
def checkT (k n m : Int) (t u v ps qs ss : List Int) : Int :=
  if k = 0 ∨ k = 1 then
    if aloneB k n m t u v ps qs = true then
      if 0 ≤ (if k = 0 then n else m) ∧ (if k = 0 then n else m) ≤ 1099511627776 ∧ (if k = 0 then ps.length else qs.length) ≤ 4096 ∧ ss.length ≤ 4096 then 0 else 2
    else 3
  else 11
set_option maxRecDepth 20000 in
set_option maxHeartbeats 4000000 in
theorem check_any (w : World) (k n m : Int) (t u v : List Int) (ht : DgOk t) (hu : DgOk u) (hv : DgOk v) (A1 A2 A3 : Option Addr) (N1 N2 N3 C1 C2 C3 : Nat) (ps qs ss : List Int) (hs : Sls w w.heap.size A1 A2 A3 N1 N2 N3 ps qs ss) :
    Calls Try.prog 33 #[.agg (thC k n m t u v (.slice A1 N1 C1) (.slice A2 N2 C2) (.slice A3 N3 C3)).toArray] w fun e w' => e = .returned (.int .i64 (checkT k n m t u v ps qs ss)) ∧ Below w.heap.size w w' := by
  obtain ⟨X, hX⟩ : ∃ X, (thC k n m t u v (.slice A1 N1 C1) (.slice A2 N2 C2) (.slice A3 N3 C3)).toArray = X := ⟨_, rfl⟩
  obtain ⟨w1, hw1⟩ : ∃ w1, w.alloc (.cells X 35) = w1 := ⟨_, rfl⟩
  have hb1 : Below w.heap.size w w1 := hw1 ▸ below_new w _
  have kx : Bk w1 w.heap.size 35 (thC k n m t u v (.slice A1 N1 C1) (.slice A2 N2 C2) (.slice A3 N3 C3)) := hw1 ▸ Bk.new' w _ X (by rw [← hX])
  have c0 := (th_mem ht hu hv kx).c0
  have HW := Lib.hid hw1; have HB := Lib.hid hb1; have HKX := Lib.hid kx; have HT := Lib.hid ht; have HU := Lib.hid hu; have HV := Lib.hid hv; have HS := Lib.hid (hs.later hb1)
  have HTH : Hid ((Try.prog.info? 35).map (·.size) = some (thC k n m t u v (.slice A1 N1 C1) (.slice A2 N2 C2) (.slice A3 N3 C3)).length) := by show _ = _; rw [thC_len ht hu hv]; exact th_size
  have HC : Hid (Calls Try.prog 64 #[.agg (thC k n m t u v (.slice A1 N1 C1) (.slice A2 N2 C2) (.slice A3 N3 C3)).toArray] w1 (RetHas k n m (.slice A1 N1 C1) (.slice A2 N2 C2) (aloneB k n m t u v ps qs) w1)) := has_any w1 k n m t u v ht hu hv A1 A2 A3 N1 N2 N3 C1 C2 C3 ps qs ss HS.out
  have lp := hs.p.length; have lq := hs.q.length; have ls := hs.s.length
  rw [hX]
  by_cases hk : k = 0 ∨ k = 1
  · obtain ⟨nn, hnn⟩ : ∃ nn, (if k = 0 then n else m) = nn := ⟨_, rfl⟩
    obtain ⟨A, N, C, hpq⟩ : ∃ (A : Option Addr) (N C : Nat), (if k = 0 then Value.slice A1 N1 C1 else Value.slice A2 N2 C2) = .slice A N C ∧ (if k = 0 then ps.length else qs.length) = N := by
      by_cases h0 : k = 0
      · exact ⟨A1, N1, C1, by rw [if_pos h0], by rw [if_pos h0, lp]⟩
      · exact ⟨A2, N2, C2, by rw [if_neg h0], by rw [if_neg h0, lq]⟩
    obtain ⟨al, hal⟩ : ∃ al, aloneB k n m t u v ps qs = al := ⟨_, rfl⟩
    have HCK : Hid (checkT k n m t u v ps qs ss = if al = true then (if 0 ≤ nn ∧ nn ≤ 1099511627776 ∧ N ≤ 4096 ∧ N3 ≤ 4096 then 0 else 2) else 3) := by
      show _ = _
      rw [checkT, if_pos hk, hal, hnn, hpq.2, ls]
    have HCC : Hid (Calls Try.prog 64 #[.agg (thC k n m t u v (.slice A1 N1 C1) (.slice A2 N2 C2) (.slice A3 N3 C3)).toArray] w1 (fun e w' => e = .returned (.tuple #[.int .i64 nn, .slice A N C, .bool al]) ∧ Below w1.heap.size w1 w')) := by
      have := HC.out
      unfold RetHas at this
      rw [hal, hnn, hpq.1] at this
      exact this
    have hk1 : (k != 0) = true → (k != 1) = false := by
      intro h; rcases hk with rfl | rfl
      · simp at h
      · rfl
    have HK1 := Lib.hid hk1
    rw [HCK.out]
    clear HC hX hw1 hb1 kx ht hu hv hs hk hnn hpq hal hk1 lp lq ls
    have hways : (k != 0) = false ∨ (k != 0) = true := by cases (k != 0) <;> simp
    cases al
    · rw [if_neg (by decide)]
      rcases hways with hw0 | hw0
      all_goals
        have hk2 := HK1.out
        (try have hk3 := HK1.out hw0)
        clear hk2
        go_enter Try.func33, Try.ntmps33
        go_upto_region 1 with fail
        rw [HW.out]
        go_wp2_with (with_reducible refine wpList_load_bk rfl 35 _ rfl w.heap.size rfl (thC k n m t u v (.slice A1 N1 C1) (.slice A2 N2 C2) (.slice A3 N3 C3)) 35 HKX.out _ Try.underlying35 rfl HTH.out ?_)
        refine HCC.out.mono ?_
        rintro e w2 ⟨rfl, hb2⟩
        have HB2 := Lib.hid (below_then HB.out hb2)
        clear hb2
        go_wp2_with fail
        go_ret
        exact ⟨rfl, HB2.out⟩
    · rw [if_pos rfl]
      rcases hways with hw0 | hw0
      all_goals
        have hk2 := HK1.out
        (try have hk3 := HK1.out hw0)
        clear hk2
        obtain ⟨z, hz⟩ : ∃ z : Int, (if 0 ≤ nn ∧ nn ≤ 1099511627776 ∧ N ≤ 4096 ∧ N3 ≤ 4096 then 0 else 2) = z := ⟨_, rfl⟩
        rw [hz]
        have HZ := Lib.hid hz
        have hf2 : nn < 0 ∨ (0 ≤ nn ∧ 1099511627776 < nn) ∨ (0 ≤ nn ∧ nn ≤ 1099511627776 ∧ 4096 < N) ∨ (0 ≤ nn ∧ nn ≤ 1099511627776 ∧ N ≤ 4096 ∧ 4096 < N3) ∨ (0 ≤ nn ∧ nn ≤ 1099511627776 ∧ N ≤ 4096 ∧ N3 ≤ 4096) := by omega
        clear hz
        rcases hf2 with h | h | h | h | h
        · have HZ2 : Hid (z = 2) := by show _ = _; rw [← HZ.out, if_neg (by omega)]
          have a1 : decide (nn < 0) = true := by simp; omega
          go_enter Try.func33, Try.ntmps33
          go_upto_region 1 with fail
          rw [HW.out]
          go_wp2_with (with_reducible refine wpList_load_bk rfl 35 _ rfl w.heap.size rfl (thC k n m t u v (.slice A1 N1 C1) (.slice A2 N2 C2) (.slice A3 N3 C3)) 35 HKX.out _ Try.underlying35 rfl HTH.out ?_)
          refine HCC.out.mono ?_
          rintro e w2 ⟨rfl, hb2⟩
          have HB2 := Lib.hid (below_then HB.out hb2)
          have d29 := (th_mem HT.out HU.out HV.out (HKX.out.later hb2)).c29
          clear hb2
          go_wp2_with fail
          go_ret
          exact ⟨by rw [HZ2.out]; rfl, HB2.out⟩
        · have HZ2 : Hid (z = 2) := by show _ = _; rw [← HZ.out, if_neg (by omega)]
          obtain ⟨h0, h1⟩ := h
          have a1 : decide (nn < 0) = false := by simp; omega
          have a2 : decide (1099511627776 < nn) = true := by simp; omega
          go_enter Try.func33, Try.ntmps33
          go_upto_region 1 with fail
          rw [HW.out]
          go_wp2_with (with_reducible refine wpList_load_bk rfl 35 _ rfl w.heap.size rfl (thC k n m t u v (.slice A1 N1 C1) (.slice A2 N2 C2) (.slice A3 N3 C3)) 35 HKX.out _ Try.underlying35 rfl HTH.out ?_)
          refine HCC.out.mono ?_
          rintro e w2 ⟨rfl, hb2⟩
          have HB2 := Lib.hid (below_then HB.out hb2)
          have d29 := (th_mem HT.out HU.out HV.out (HKX.out.later hb2)).c29
          clear hb2
          go_wp2_with fail
          go_ret
          exact ⟨by rw [HZ2.out]; rfl, HB2.out⟩
        · have HZ2 : Hid (z = 2) := by show _ = _; rw [← HZ.out, if_neg (by omega)]
          obtain ⟨h0, h1, h2⟩ := h
          have a1 : decide (nn < 0) = false := by simp; omega
          have a2 : decide (1099511627776 < nn) = false := by simp; omega
          have a3 : decide ((4096 : Int) < (N : Int)) = true := by simp; omega
          go_enter Try.func33, Try.ntmps33
          go_upto_region 1 with fail
          rw [HW.out]
          go_wp2_with (with_reducible refine wpList_load_bk rfl 35 _ rfl w.heap.size rfl (thC k n m t u v (.slice A1 N1 C1) (.slice A2 N2 C2) (.slice A3 N3 C3)) 35 HKX.out _ Try.underlying35 rfl HTH.out ?_)
          refine HCC.out.mono ?_
          rintro e w2 ⟨rfl, hb2⟩
          have HB2 := Lib.hid (below_then HB.out hb2)
          have d29 := (th_mem HT.out HU.out HV.out (HKX.out.later hb2)).c29
          clear hb2
          go_wp2_with fail
          go_ret
          exact ⟨by rw [HZ2.out]; rfl, HB2.out⟩
        · have HZ2 : Hid (z = 2) := by show _ = _; rw [← HZ.out, if_neg (by omega)]
          obtain ⟨h0, h1, h2, h3⟩ := h
          have a1 : decide (nn < 0) = false := by simp; omega
          have a2 : decide (1099511627776 < nn) = false := by simp; omega
          have a3 : decide ((4096 : Int) < (N : Int)) = false := by simp; omega
          have a5 : decide (4096 < N) = false := by simp; omega
          have a4 : decide ((4096 : Int) < (N3 : Int)) = true := by simp; omega
          go_enter Try.func33, Try.ntmps33
          go_upto_region 1 with fail
          rw [HW.out]
          go_wp2_with (with_reducible refine wpList_load_bk rfl 35 _ rfl w.heap.size rfl (thC k n m t u v (.slice A1 N1 C1) (.slice A2 N2 C2) (.slice A3 N3 C3)) 35 HKX.out _ Try.underlying35 rfl HTH.out ?_)
          refine HCC.out.mono ?_
          rintro e w2 ⟨rfl, hb2⟩
          have HB2 := Lib.hid (below_then HB.out hb2)
          have d29 := (th_mem HT.out HU.out HV.out (HKX.out.later hb2)).c29
          clear hb2
          go_wp2_with fail
          go_ret
          exact ⟨by rw [HZ2.out]; rfl, HB2.out⟩
        · have HZ2 : Hid (z = 0) := by show _ = _; rw [← HZ.out, if_pos (by omega)]
          obtain ⟨h0, h1, h2, h3⟩ := h
          have a1 : decide (nn < 0) = false := by simp; omega
          have a2 : decide (1099511627776 < nn) = false := by simp; omega
          have a3 : decide ((4096 : Int) < (N : Int)) = false := by simp; omega
          have a5 : decide (4096 < N) = false := by simp; omega
          have a4 : decide ((4096 : Int) < (N3 : Int)) = false := by simp; omega
          have a6 : decide (4096 < N3) = false := by simp; omega
          go_enter Try.func33, Try.ntmps33
          go_upto_region 1 with fail
          rw [HW.out]
          go_wp2_with (with_reducible refine wpList_load_bk rfl 35 _ rfl w.heap.size rfl (thC k n m t u v (.slice A1 N1 C1) (.slice A2 N2 C2) (.slice A3 N3 C3)) 35 HKX.out _ Try.underlying35 rfl HTH.out ?_)
          refine HCC.out.mono ?_
          rintro e w2 ⟨rfl, hb2⟩
          have HB2 := Lib.hid (below_then HB.out hb2)
          have d29 := (th_mem HT.out HU.out HV.out (HKX.out.later hb2)).c29
          clear hb2
          go_wp2_with fail
          go_ret
          exact ⟨by rw [HZ2.out]; rfl, HB2.out⟩
  · have hk0 : (k != 0) = true := by simp; omega
    have hk1 : (k != 1) = true := by simp; omega
    have HZ2 : Hid (checkT k n m t u v ps qs ss = 11) := by show _ = _; rw [checkT, if_neg hk]
    clear HC hX hw1 hb1 kx ht hu hv hs hk lp lq ls
    go_enter Try.func33, Try.ntmps33
    go_upto_region 1 with fail
    rw [HW.out]
    go_wp2_with fail
    go_ret
    exact ⟨by rw [HZ2.out]; rfl, HB.out⟩
end Go.Proofs.Ythibihjblodfmaa
