/- The document's things as the program's. -/
import Derived.Test.YthibihjblodfmaaQ2
namespace Go.Proofs.Ythibihjblodfmaa
open Go.RowKit

theorem build_st (n : Int) (t : List Int) (ht : DgOk t) (A : Option Addr) (N C : Nat) (w : World) :
    (Instr.build 31 #[(0, .agg (dl t).toArray), (1, .int .i64 n), (2, .slice A N C)]).run Try.prog w = .ok (.agg (staC n t (.slice A N C)).toArray) w := by
  obtain ⟨t0, t1, t2, t3, t4, t5, t6, t7, rfl⟩ := list8 t ht.len
  kernel_rfl
theorem build_ac (n : Int) (t v : List Int) (ht : DgOk t) (hv : DgOk v) (A : Option Addr) (N C : Nat) (w : World) :
    (Instr.build 33 #[(0, .agg (dl t).toArray), (1, .int .i64 n), (2, .agg (dl v).toArray), (3, .slice A N C)]).run Try.prog w = .ok (.agg (actC n t v (.slice A N C)).toArray) w := by
  obtain ⟨t0, t1, t2, t3, t4, t5, t6, t7, rfl⟩ := list8 t ht.len
  obtain ⟨v0, v1, v2, v3, v4, v5, v6, v7, rfl⟩ := list8 v hv.len
  kernel_rfl
theorem build_th (k : Int) (A : Option Addr) (N C : Nat) (w : World) :
    (Instr.build 35 #[(0, .int .i64 k), (3, .slice A N C)]).run Try.prog w = .ok (.agg (thC k 0 0 zeroD zeroD zeroD (.slice none 0 0) (.slice none 0 0) (.slice A N C)).toArray) w := by kernel_rfl
theorem st_one {n : Int} {t : List Int} {A : Option Addr} {N C : Nat} : ∀ x ∈ staC n t (.slice A N C), x.oneCell' = true := by
  intro x hx
  simp only [staC, List.mem_cons, List.mem_append, List.not_mem_nil, or_false] at hx
  rcases hx with hx | rfl | rfl
  · exact dl_one _ _ hx
  all_goals rfl
theorem ac_one {n : Int} {t v : List Int} {A : Option Addr} {N C : Nat} : ∀ x ∈ actC n t v (.slice A N C), x.oneCell' = true := by
  intro x hx
  simp only [actC, List.mem_cons, List.mem_append, List.not_mem_nil, or_false] at hx
  rcases hx with hx | rfl | hx | rfl
  · exact dl_one _ _ hx
  · rfl
  · exact dl_one _ _ hx
  · rfl
theorem th_one {k n m : Int} {t u v : List Int} {A B E : Option Addr} {N C M D O F : Nat} : ∀ x ∈ thC k n m t u v (.slice A N C) (.slice B M D) (.slice E O F), x.oneCell' = true := by
  intro x hx
  simp only [thC, List.mem_cons, List.mem_append, List.not_mem_nil, or_false] at hx
  rcases hx with rfl | hx | hx | rfl
  · rfl
  · exact st_one _ hx
  · exact ac_one _ hx
  · rfl
theorem z_th : (#[.int .i64 0, .int .u8 0, .int .u8 0, .int .u8 0, .int .u8 0, .int .u8 0, .int .u8 0, .int .u8 0, .int .u8 0, .int .i64 0, .slice none 0 0, .int .u8 0, .int .u8 0, .int .u8 0, .int .u8 0, .int .u8 0, .int .u8 0, .int .u8 0, .int .u8 0, .int .i64 0, .int .u8 0, .int .u8 0, .int .u8 0, .int .u8 0, .int .u8 0, .int .u8 0, .int .u8 0, .int .u8 0, .slice none 0 0, .slice none 0 0] : Array Value) = (thC 0 0 0 zeroD zeroD zeroD (.slice none 0 0) (.slice none 0 0) (.slice none 0 0)).toArray := rfl
/-- A store into a thing: its state, its act, a number, a slice. -/
theorem Put.st {w w' : World} {g : Nat} {k m n' : Int} {u v t' : List Int} {q s p' : Value} (h : Put w w' g 35 ([.int .i64 k] ++ (staC n' t' p' ++ (actC m u v q ++ [s])))) : Bk w' g 35 (thC k n' m t' u v p' q s) := h.bk
theorem th_act {w : World} {g : Nat} {k n m : Int} {t u v : List Int} {p q s : Value} (h : Bk w g 35 (thC k n m t u v p q s)) : Bk w g 35 ((.int .i64 k :: staC n t p) ++ (actC m u v q ++ [s])) := h
theorem th_num {w : World} {g : Nat} {k n m : Int} {t u v : List Int} {p q s : Value} (h : Bk w g 35 (thC k n m t u v p q s)) : Bk w g 35 ((.int .i64 k :: (staC n t p ++ dl u)) ++ ([.int .i64 m] ++ (dl v ++ [q, s]))) := by simpa [thC, actC] using h
theorem num_th {w : World} {g : Nat} {k n m : Int} {t u v : List Int} {p q s : Value} (h : Bk w g 35 ((.int .i64 k :: (staC n t p ++ dl u)) ++ ([.int .i64 m] ++ (dl v ++ [q, s])))) : Bk w g 35 (thC k n m t u v p q s) := by simpa [thC, actC] using h
theorem th_pos {w : World} {g : Nat} {k n m : Int} {t u v : List Int} {p q s : Value} (h : Bk w g 35 (thC k n m t u v p q s)) : Bk w g 35 ((.int .i64 k :: (dl t ++ [.int .i64 n])) ++ ([p] ++ (actC m u v q ++ [s]))) := by simpa [thC, staC] using h
theorem pos_th {w : World} {g : Nat} {k n m : Int} {t u v : List Int} {p q s : Value} (h : Bk w g 35 ((.int .i64 k :: (dl t ++ [.int .i64 n])) ++ ([p] ++ (actC m u v q ++ [s])))) : Bk w g 35 (thC k n m t u v p q s) := by simpa [thC, staC] using h

/-- What 'Of' makes: the state's and the act's parts. -/
structure OfR (w : World) (k n : Int) (t v : List Int) (b s : Value) (o : Bool) (e : Ending) (w' : World) : Prop where
  ret : if k = 0 then e = .returned (.agg (thC k n (if o then 1 else 0) t zeroD zeroD b (.slice none 0 0) s).toArray)
    else ∃ p, e = .returned (.agg (thC k 0 n zeroD t v p b s).toArray) ∧ (if o then ∃ g, p = .slice (some ⟨g, 0, none⟩) 1 1 ∧ w.heap.size ≤ g ∧ Bk w' g 5 [.int .u8 0] else p = .slice none 0 0)
  bel : Below w.heap.size w w'

set_option maxRecDepth 20000 in
set_option maxHeartbeats 8000000 in
theorem of_any (w : World) (k n : Int) (t v : List Int) (ht : DgOk t) (hv : DgOk v) (A B : Option Addr) (N C M D : Nat) (o : Bool) :
    Calls Try.prog 17 #[.agg (rtC k n t v (.slice A N C) (.slice B M D) o).toArray] w (OfR w k n t v (.slice A N C) (.slice B M D) o) := by
  obtain ⟨X, hX⟩ : ∃ X, (rtC k n t v (.slice A N C) (.slice B M D) o).toArray = X := ⟨_, rfl⟩
  obtain ⟨Z, hZ⟩ : ∃ Z, (thC 0 0 0 zeroD zeroD zeroD (.slice none 0 0) (.slice none 0 0) (.slice none 0 0)).toArray = Z := ⟨_, rfl⟩
  obtain ⟨w1, hw1⟩ : ∃ w1, (w.alloc (.cells X 25)).alloc (.cells Z 35) = w1 := ⟨_, rfl⟩
  have hb1 : Below w.heap.size w w1 := hw1 ▸ (below_new w _).alloc (by simp) _
  have kx : Bk w1 w.heap.size 25 (rtC k n t v (.slice A N C) (.slice B M D) o) := hw1 ▸ (Bk.new' w _ X (by rw [← hX])).alloc _
  have kz : Bk w1 (w.heap.size + 1) 35 (thC 0 0 0 zeroD zeroD zeroD (.slice none 0 0) (.slice none 0 0) (.slice none 0 0)) := hw1 ▸ Bk.at_ _ _ Z (by simp) (by rw [← hZ])
  have hz1 : w1.heap.size = w.heap.size + 1 + 1 := by rw [← hw1]; simp
  have hm := rt_mem ht hv kx
  have HX := Lib.hid hX; have HZ := Lib.hid hZ; have HW := Lib.hid hw1; have HB := Lib.hid hb1; have HKX := Lib.hid kx; have HKZ := Lib.hid kz; have HZ1 := Lib.hid hz1; have HT := Lib.hid ht; have HV := Lib.hid hv; have HM := Lib.hid hm
  have c0 := hm.c0; have c19 := hm.c19
  have HBD := Lib.hid (build_th k B M D)
  have HZ3 : Hid (Bk (w1.alloc (.cells #[.int .i64 0, .int .u8 0, .int .u8 0, .int .u8 0, .int .u8 0, .int .u8 0, .int .u8 0, .int .u8 0, .int .u8 0, .int .i64 0, .slice none 0 0, .int .u8 0, .int .u8 0, .int .u8 0, .int .u8 0, .int .u8 0, .int .u8 0, .int .u8 0, .int .u8 0, .int .i64 0, .int .u8 0, .int .u8 0, .int .u8 0, .int .u8 0, .int .u8 0, .int .u8 0, .int .u8 0, .int .u8 0, .slice none 0 0, .slice none 0 0] 35)) w1.heap.size 35 (thC 0 0 0 zeroD zeroD zeroD (.slice none 0 0) (.slice none 0 0) (.slice none 0 0))) := Bk.new' _ _ _ rfl
  have HYS : Hid ((Try.prog.info? 35).map (·.size) = some (thC k 0 0 zeroD zeroD zeroD (.slice none 0 0) (.slice none 0 0) (.slice B M D)).length) := by show _ = _; rw [thC_len zero_ok zero_ok zero_ok]; exact th_size
  have HYL : Hid ((thC 0 0 0 zeroD zeroD zeroD (.slice none 0 0) (.slice none 0 0) (.slice none 0 0)).length = (thC k 0 0 zeroD zeroD zeroD (.slice none 0 0) (.slice none 0 0) (.slice B M D)).length) := by show _ = _; rw [thC_len zero_ok zero_ok zero_ok]; rfl
  have HKX3 := Lib.hid (HKX.out.alloc (.cells #[.int .i64 0, .int .u8 0, .int .u8 0, .int .u8 0, .int .u8 0, .int .u8 0, .int .u8 0, .int .u8 0, .int .u8 0, .int .i64 0, .slice none 0 0, .int .u8 0, .int .u8 0, .int .u8 0, .int .u8 0, .int .u8 0, .int .u8 0, .int .u8 0, .int .u8 0, .int .i64 0, .int .u8 0, .int .u8 0, .int .u8 0, .int .u8 0, .int .u8 0, .int .u8 0, .int .u8 0, .int .u8 0, .slice none 0 0, .slice none 0 0] 35))
  have HT8 : Hid ((Try.prog.info? 22).map (·.size) = some (dl t).length) := by show _ = _; rw [dl_len, ht.len]; exact rdg_size
  have HV8 : Hid ((Try.prog.info? 22).map (·.size) = some (dl v).length) := by show _ = _; rw [dl_len, hv.len]; exact rdg_size
  have HST : Hid ((Try.prog.info? 31).map (·.size) = some (staC n t (.slice A N C)).length) := by show _ = _; rw [staC_len ht]; exact st_size
  have HAC : Hid ((Try.prog.info? 33).map (·.size) = some (actC n t v (.slice A N C)).length) := by show _ = _; rw [actC_len ht hv]; exact ac_size
  rw [hX]
  clear hX hZ hw1 hb1 kx kz hz1 ht hv hm
  go_enter Try.func17, Try.ntmps17
  go_upto_region 1 with fail
  rw [z_th, HZ.out, HW.out]
  go_wp2_with (first
    | (with_reducible refine wpList_build rfl 35 _ rfl #[(0, .int .i64 k), (3, .slice B M D)] (by simp [Act.eval]) (.agg (thC k 0 0 zeroD zeroD zeroD (.slice none 0 0) (.slice none 0 0) (.slice B M D)).toArray) (HBD.out _) ?_)
    | (with_reducible refine stop_store 35 _ _ rfl ?_))
  refine StopD.go ?_
  refine wpList_store_bk rfl 35 _ _ rfl w1.heap.size (thC k 0 0 zeroD zeroD zeroD (.slice none 0 0) (.slice none 0 0) (.slice B M D)) rfl rfl 35 _ HZ3.out HYS.out HYL.out th_one ?_
  intro w3 hp3
  have hb3 : Below w1.heap.size w1 w3 := (below_new w1 _).grown hp3.only (by simp) (fun q hq => by injection hq with hq; omega)
  have HP3 := Lib.hid hp3; have HB3 := Lib.hid hb3; have HK3 := Lib.hid (HKX.out.later hb3); have HKR3 := Lib.hid (HKZ.out.later hb3)
  clear hp3 hb3
  go_wp2_with fail
  have hz3 : w3.heap.size = w1.heap.size + 1 := by have := HP3.out.size; simpa using this
  have HZ3' := Lib.hid hz3
  clear hz3 c0 c19
  refine wp_region_held_drew (S := fun w' => Bk w' w.heap.size 25 (rtC k n t v (.slice A N C) (.slice B M D) o)) (by kernel_rfl) (Bk.drew HK3.out) (fun hHeld => ?_)
  refine wpAnyH_take (i := 0) (v := ?_) rfl (by kernel_rfl) (by kernel_rfl) (by kernel_rfl) (fun _ _ _ h => h) (Or.inl ⟨by rfl, ?_⟩) (by assumption) ?_
  rotate_left
  · intro w hSw
    (try dsimp only at hSw)
    go_simp
    try with_reducible rfl
  try simp only [Act.put, List.setIfInBounds_toArray, List.set_cons_zero, List.set_cons_succ, List.getElem_toArray, List.getElem_cons_zero]
  refine wpAnyH_take (i := 1) (v := .agg (List.toArray (dl t))) rfl (by kernel_rfl) (by kernel_rfl) (by kernel_rfl) (fun _ _ _ h => h) (yieldsIf_load_mid (by rfl) _ _ rfl _ _ rfl (dl t) _ (fun w hSw => (rt_mem HT.out HV.out hSw).r1) Try.underlying22 rfl (HT8.out)) (by assumption) ?_
  try simp only [Act.put, List.setIfInBounds_toArray, List.set_cons_zero, List.set_cons_succ, List.getElem_toArray, List.getElem_cons_zero, List.getElem_cons_succ]
  refine wpAnyH_take (i := 2) (v := ?_) rfl (by kernel_rfl) (by kernel_rfl) (by kernel_rfl) (fun _ _ _ h => h) (Or.inl ⟨by rfl, ?_⟩) (by assumption) ?_
  rotate_left
  · intro w hSw
    (try dsimp only at hSw)
    go_simp
    try with_reducible rfl
  try simp only [Act.put, List.setIfInBounds_toArray, List.set_cons_zero, List.set_cons_succ, List.getElem_toArray, List.getElem_cons_zero, List.getElem_cons_succ]
  refine wpAnyH_take (i := 3) (v := ?_) rfl (by kernel_rfl) (by kernel_rfl) (by kernel_rfl) (fun _ _ _ h => h) (Or.inl ⟨by rfl, ?_⟩) (by assumption) ?_
  rotate_left
  · intro w hSw
    have hcell := (rt_mem HT.out HV.out hSw).c9
    clear hSw
    go_simp
    try with_reducible rfl
  try simp only [Act.put, List.setIfInBounds_toArray, List.set_cons_zero, List.set_cons_succ, List.getElem_toArray, List.getElem_cons_zero, List.getElem_cons_succ]
  refine wpAnyH_take (i := 4) (v := ?_) rfl (by kernel_rfl) (by kernel_rfl) (by kernel_rfl) (fun _ _ _ h => h) (Or.inl ⟨by rfl, ?_⟩) (by assumption) ?_
  rotate_left
  · intro w hSw
    (try dsimp only at hSw)
    go_simp
    try with_reducible rfl
  try simp only [Act.put, List.setIfInBounds_toArray, List.set_cons_zero, List.set_cons_succ, List.getElem_toArray, List.getElem_cons_zero, List.getElem_cons_succ]
  refine wpAnyH_take (i := 5) (v := ?_) rfl (by kernel_rfl) (by kernel_rfl) (by kernel_rfl) (fun _ _ _ h => h) (Or.inl ⟨by rfl, ?_⟩) (by assumption) ?_
  rotate_left
  · intro w hSw
    have hcell := (rt_mem HT.out HV.out hSw).c18
    clear hSw
    go_simp
    try with_reducible rfl
  try simp only [Act.put, List.setIfInBounds_toArray, List.set_cons_zero, List.set_cons_succ, List.getElem_toArray, List.getElem_cons_zero, List.getElem_cons_succ]
  refine wpAnyH_take (i := 6) (v := .agg (List.toArray (staC n t (.slice A N C)))) rfl (by kernel_rfl) (by kernel_rfl) (by kernel_rfl) (fun _ _ _ h => h) (yieldsIf_build (by rfl) _ _ rfl #[(0, .agg (dl t).toArray), (1, .int .i64 n), (2, .slice A N C)] (by simp [Act.eval]) _ (build_st n t HT.out A N C)) (by assumption) ?_
  try simp only [Act.put, List.setIfInBounds_toArray, List.set_cons_zero, List.set_cons_succ, List.getElem_toArray, List.getElem_cons_zero, List.getElem_cons_succ]
  refine wpAnyH_take (i := 7) (v := ?_) rfl (by kernel_rfl) (by kernel_rfl) (by kernel_rfl) (fun _ _ _ h => h) (Or.inl ⟨by rfl, ?_⟩) (by assumption) ?_
  rotate_left
  · intro w hSw
    (try dsimp only at hSw)
    go_simp
    try with_reducible rfl
  try simp only [Act.put, List.setIfInBounds_toArray, List.set_cons_zero, List.set_cons_succ, List.getElem_toArray, List.getElem_cons_zero, List.getElem_cons_succ]
  refine wpAnyH_take (i := 8) (v := .agg (List.toArray (dl t))) rfl (by kernel_rfl) (by kernel_rfl) (by kernel_rfl) (fun _ _ _ h => h) (yieldsIf_load_mid (by rfl) _ _ rfl _ _ rfl (dl t) _ (fun w hSw => (rt_mem HT.out HV.out hSw).r1) Try.underlying22 rfl (HT8.out)) (by assumption) ?_
  try simp only [Act.put, List.setIfInBounds_toArray, List.set_cons_zero, List.set_cons_succ, List.getElem_toArray, List.getElem_cons_zero, List.getElem_cons_succ]
  refine wpAnyH_take (i := 9) (v := ?_) rfl (by kernel_rfl) (by kernel_rfl) (by kernel_rfl) (fun _ _ _ h => h) (Or.inl ⟨by rfl, ?_⟩) (by assumption) ?_
  rotate_left
  · intro w hSw
    (try dsimp only at hSw)
    go_simp
    try with_reducible rfl
  try simp only [Act.put, List.setIfInBounds_toArray, List.set_cons_zero, List.set_cons_succ, List.getElem_toArray, List.getElem_cons_zero, List.getElem_cons_succ]
  refine wpAnyH_take (i := 10) (v := ?_) rfl (by kernel_rfl) (by kernel_rfl) (by kernel_rfl) (fun _ _ _ h => h) (Or.inl ⟨by rfl, ?_⟩) (by assumption) ?_
  rotate_left
  · intro w hSw
    have hcell := (rt_mem HT.out HV.out hSw).c9
    clear hSw
    go_simp
    try with_reducible rfl
  try simp only [Act.put, List.setIfInBounds_toArray, List.set_cons_zero, List.set_cons_succ, List.getElem_toArray, List.getElem_cons_zero, List.getElem_cons_succ]
  refine wpAnyH_take (i := 11) (v := ?_) rfl (by kernel_rfl) (by kernel_rfl) (by kernel_rfl) (fun _ _ _ h => h) (Or.inl ⟨by rfl, ?_⟩) (by assumption) ?_
  rotate_left
  · intro w hSw
    (try dsimp only at hSw)
    go_simp
    try with_reducible rfl
  try simp only [Act.put, List.setIfInBounds_toArray, List.set_cons_zero, List.set_cons_succ, List.getElem_toArray, List.getElem_cons_zero, List.getElem_cons_succ]
  refine wpAnyH_take (i := 12) (v := .agg (List.toArray (dl v))) rfl (by kernel_rfl) (by kernel_rfl) (by kernel_rfl) (fun _ _ _ h => h) (yieldsIf_load_mid (by rfl) _ _ rfl _ _ rfl (dl v) _ (fun w hSw => (rt_mem HT.out HV.out hSw).r10) Try.underlying22 rfl (HV8.out)) (by assumption) ?_
  try simp only [Act.put, List.setIfInBounds_toArray, List.set_cons_zero, List.set_cons_succ, List.getElem_toArray, List.getElem_cons_zero, List.getElem_cons_succ]
  refine wpAnyH_take (i := 13) (v := ?_) rfl (by kernel_rfl) (by kernel_rfl) (by kernel_rfl) (fun _ _ _ h => h) (Or.inl ⟨by rfl, ?_⟩) (by assumption) ?_
  rotate_left
  · intro w hSw
    (try dsimp only at hSw)
    go_simp
    try with_reducible rfl
  try simp only [Act.put, List.setIfInBounds_toArray, List.set_cons_zero, List.set_cons_succ, List.getElem_toArray, List.getElem_cons_zero, List.getElem_cons_succ]
  refine wpAnyH_take (i := 14) (v := ?_) rfl (by kernel_rfl) (by kernel_rfl) (by kernel_rfl) (fun _ _ _ h => h) (Or.inl ⟨by rfl, ?_⟩) (by assumption) ?_
  rotate_left
  · intro w hSw
    have hcell := (rt_mem HT.out HV.out hSw).c18
    clear hSw
    go_simp
    try with_reducible rfl
  try simp only [Act.put, List.setIfInBounds_toArray, List.set_cons_zero, List.set_cons_succ, List.getElem_toArray, List.getElem_cons_zero, List.getElem_cons_succ]
  refine wpAnyH_take (i := 15) (v := .agg (List.toArray (actC n t v (.slice A N C)))) rfl (by kernel_rfl) (by kernel_rfl) (by kernel_rfl) (fun _ _ _ h => h) (yieldsIf_build (by rfl) _ _ rfl #[(0, .agg (dl t).toArray), (1, .int .i64 n), (2, .agg (dl v).toArray), (3, .slice A N C)] (by simp [Act.eval]) _ (build_ac n t v HT.out HV.out A N C)) (by assumption) ?_
  try simp only [Act.put, List.setIfInBounds_toArray, List.set_cons_zero, List.set_cons_succ, List.getElem_toArray, List.getElem_cons_zero, List.getElem_cons_succ]
  refine wpAnyH_ready (rs := [16, 17]) (by kernel_rfl) (by simp) ?_
  refine AllReadyH.cons rfl (fun K hK => ?_) (AllReadyH.cons rfl (fun K hK => ?_) AllReadyH.nil)
  · go_simp
    refine hK.out _ _ (((HK3.out.alloc _).drew)) (fun hHeld => ?_)
    clear hK K
    try simp only [Act.put, List.setIfInBounds_toArray, List.set_cons_zero, List.set_cons_succ, List.getElem_toArray, List.getElem_cons_zero, List.getElem_cons_succ]
    refine wpAnyH_ready (rs := [17]) (by kernel_rfl) (by simp) ?_
    refine AllReadyH.cons rfl (fun K hK => ?_) AllReadyH.nil
    go_simp
    refine hK.out _ _ ((((HK3.out.alloc _).alloc _).drew)) (fun hHeld => ?_)
    clear hK K
    try simp only [Act.put, List.setIfInBounds_toArray, List.set_cons_zero, List.set_cons_succ, List.getElem_toArray, List.getElem_cons_zero, List.getElem_cons_succ]
    have k4 : Bk (((w3.alloc (.cells #[.int .u8 0, .int .u8 0, .int .u8 0, .int .u8 0, .int .u8 0, .int .u8 0, .int .u8 0, .int .u8 0, .int .i64 0, .slice none 0 0] 31)).alloc (.cells #[.int .u8 0, .int .u8 0, .int .u8 0, .int .u8 0, .int .u8 0, .int .u8 0, .int .u8 0, .int .u8 0, .int .i64 0, .int .u8 0, .int .u8 0, .int .u8 0, .int .u8 0, .int .u8 0, .int .u8 0, .int .u8 0, .int .u8 0, .slice none 0 0] 33)).drew) w3.heap.size 31 ([] ++ (staC 0 zeroD (.slice none 0 0) ++ [])) := ((Bk.new' w3 _ #[.int .u8 0, .int .u8 0, .int .u8 0, .int .u8 0, .int .u8 0, .int .u8 0, .int .u8 0, .int .u8 0, .int .i64 0, .slice none 0 0] rfl).alloc _).drew
    have k5 : Bk (((w3.alloc (.cells #[.int .u8 0, .int .u8 0, .int .u8 0, .int .u8 0, .int .u8 0, .int .u8 0, .int .u8 0, .int .u8 0, .int .i64 0, .slice none 0 0] 31)).alloc (.cells #[.int .u8 0, .int .u8 0, .int .u8 0, .int .u8 0, .int .u8 0, .int .u8 0, .int .u8 0, .int .u8 0, .int .i64 0, .int .u8 0, .int .u8 0, .int .u8 0, .int .u8 0, .int .u8 0, .int .u8 0, .int .u8 0, .int .u8 0, .slice none 0 0] 33)).drew) (w3.heap.size + 1) 33 ([] ++ (actC 0 zeroD zeroD (.slice none 0 0) ++ [])) := (Bk.at_ _ _ #[.int .u8 0, .int .u8 0, .int .u8 0, .int .u8 0, .int .u8 0, .int .u8 0, .int .u8 0, .int .u8 0, .int .i64 0, .int .u8 0, .int .u8 0, .int .u8 0, .int .u8 0, .int .u8 0, .int .u8 0, .int .u8 0, .int .u8 0, .slice none 0 0] (by simp) rfl).drew
    have hbl : Below w3.heap.size w3 (((w3.alloc (.cells #[.int .u8 0, .int .u8 0, .int .u8 0, .int .u8 0, .int .u8 0, .int .u8 0, .int .u8 0, .int .u8 0, .int .i64 0, .slice none 0 0] 31)).alloc (.cells #[.int .u8 0, .int .u8 0, .int .u8 0, .int .u8 0, .int .u8 0, .int .u8 0, .int .u8 0, .int .u8 0, .int .i64 0, .int .u8 0, .int .u8 0, .int .u8 0, .int .u8 0, .int .u8 0, .int .u8 0, .int .u8 0, .int .u8 0, .slice none 0 0] 33)).drew) := ((below_new w3 _).alloc (by simp) _).drew
    have hsz : w3.heap.size ≤ (((w3.alloc (.cells #[.int .u8 0, .int .u8 0, .int .u8 0, .int .u8 0, .int .u8 0, .int .u8 0, .int .u8 0, .int .u8 0, .int .i64 0, .slice none 0 0] 31)).alloc (.cells #[.int .u8 0, .int .u8 0, .int .u8 0, .int .u8 0, .int .u8 0, .int .u8 0, .int .u8 0, .int .u8 0, .int .i64 0, .int .u8 0, .int .u8 0, .int .u8 0, .int .u8 0, .int .u8 0, .int .u8 0, .int .u8 0, .int .u8 0, .slice none 0 0] 33)).drew).heap.size := hbl.size
    have e1 := HZ1.out
    have e3 := HZ3'.out
    refine wpAnyH_ready (rs := [18]) (by kernel_rfl) (by simp) ?_
    refine AllReadyH.cons rfl (fun K hK => ?_) AllReadyH.nil
    rw [if_pos (by rfl)]
    refine wp_store_part _ _ _ rfl (w3.heap.size) 0 _ (staC n t (.slice A N C)) rfl rfl rfl _ ([]) (staC 0 zeroD (.slice none 0 0)) ([]) k4 rfl (by rw [staC_len HT.out, staC_len zero_ok]) HST.out st_one ?_
    intro w5 hp5
    refine hK.out _ _ (hHeld.grown hp5.only (by intro h; injection h with h; omega)) (fun hHeld => ?_)
    clear hK K
    try simp only [Act.put, List.getElem_toArray, List.getElem_cons_zero, List.getElem_cons_succ]
    have k5' : Bk w5 ((w3.heap.size + 1)) 33 ([] ++ (actC 0 zeroD zeroD (.slice none 0 0) ++ [])) := k5.grown hp5.only (by intro h; injection h with h; omega)
    refine wpAnyH_ready (rs := [19]) (by kernel_rfl) (by simp) ?_
    refine AllReadyH.cons rfl (fun K hK => ?_) AllReadyH.nil
    rw [if_pos (by rfl)]
    refine wp_store_part _ _ _ rfl (w3.heap.size + 1) 0 _ (actC n t v (.slice A N C)) rfl rfl rfl _ ([]) (actC 0 zeroD zeroD (.slice none 0 0)) ([]) k5' rfl (by rw [actC_len HT.out HV.out, actC_len zero_ok zero_ok]) HAC.out ac_one ?_
    intro w7 hp7
    refine hK.out _ _ (hHeld.grown hp7.only (by intro h; injection h with h; omega)) (fun hHeld => ?_)
    clear hK K
    try simp only [Act.put, List.getElem_toArray, List.getElem_cons_zero, List.getElem_cons_succ]
    refine wpAnyH_done (by kernel_rfl) ?_ _
    have hQ4 : Bk w7 ((w3.heap.size)) 31 (staC n t (.slice A N C)) := by have := hp5.bk.grown hp7.only (by intro h; injection h with h; omega); simpa using this
    have hQ5 : Bk w7 ((w3.heap.size + 1)) 33 (actC n t v (.slice A N C)) := by have := hp7.bk; simpa using this
    have hB7 : Below w3.heap.size w3 w7 := (hbl.grown hp5.only hsz (fun q hq => by injection hq with hq; omega)).grown hp7.only (by rw [hp5.size]; exact hsz) (fun q hq => by injection hq with hq; omega)
    have hP7 := HP3.out.bk.later hB7
    have hX7 := HK3.out.later hB7
    have hR7 := HKR3.out.later hB7
    have HQ4 := Lib.hid hQ4; have HQ5 := Lib.hid hQ5; have HB7 := Lib.hid hB7; have HP7 := Lib.hid hP7; have HX7 := Lib.hid hX7; have HR7 := Lib.hid hR7
    have hm7 := rt_mem HT.out HV.out hX7
    have c0 := hm7.c0
    have c20 := hm7.c20
    clear e1 e3 hHeld k4 k5 k5' hp5 hp7 hbl hsz hQ4 hQ5 hB7 hP7 hX7 hR7 hm7
    have e1 : w.heap.size + 1 < w1.heap.size := by have := HZ1.out; omega
    have e3 : w1.heap.size < w3.heap.size := by have := HZ3'.out; omega
    have HXX : Hid (∀ w', w7.grownBy w' (some w1.heap.size) → Bk w' w.heap.size 25 (rtC k n t v (.slice A N C) (.slice B M D) o)) := fun w' h => HX7.out.grown h (by intro h; injection h with h; omega)
    have HRR : Hid (∀ w', w7.grownBy w' (some w1.heap.size) → Bk w' (w.heap.size + 1) 35 (thC 0 0 0 zeroD zeroD zeroD (.slice none 0 0) (.slice none 0 0) (.slice none 0 0))) := fun w' h => HR7.out.grown h (by intro h; injection h with h; omega)
    have HBB : Hid (∀ w', w7.grownBy w' (some w1.heap.size) → Below w.heap.size w w') := fun w' h => below_only (below_then HB.out (below_then HB3.out HB7.out)) h (by have := HB.out.size; have := HB3.out.size; have := HB7.out.size; omega) (by omega)
    by_cases hk : k = 0
    · have hk1 : (k == 0) = true := by simp [hk]
      have HK := Lib.hid hk
      have hP7 : Bk w7 w1.heap.size 35 ([.int .i64 k] ++ (staC 0 zeroD (.slice none 0 0) ++ (actC 0 zeroD zeroD (.slice none 0 0) ++ [.slice B M D]))) := HP7.out
      have HP7' := Lib.hid hP7
      clear hk hP7
      cases o
      all_goals
        go_wp2_with (first
          | (with_reducible refine wpList_load_bk rfl 31 _ rfl (w3.heap.size) rfl (staC n t (.slice A N C)) 31 HQ4.out _ Try.underlying31 rfl HST.out ?_)
          | (with_reducible refine stop_store 31 _ _ rfl ?_))
        refine StopD.go ?_
        refine wpList_store_part rfl 31 _ _ rfl w1.heap.size 1 (.agg (staC n t (.slice A N C)).toArray) (staC n t (.slice A N C)) rfl rfl rfl 35 [.int .i64 k] (staC 0 zeroD (.slice none 0 0)) (actC 0 zeroD zeroD (.slice none 0 0) ++ [.slice B M D]) HP7'.out rfl (by rw [staC_len HT.out, staC_len zero_ok]) HST.out st_one ?_
        intro w8 hp8
        have c20 := (rt_mem HT.out HV.out (HXX.out w8 hp8.only)).c20
        have HF := Lib.hid (Put.st hp8)
        have HFR := Lib.hid (HRR.out w8 hp8.only)
        have HFB := Lib.hid (HBB.out w8 hp8.only)
        clear hp8
      · skip
        have L9 : Hid ((Try.prog.info? 35).map (·.size) = some (thC k n 0 t zeroD zeroD (.slice A N C) (.slice none 0 0) (.slice B M D)).length) := by show _ = _; rw [thC_len (by first | exact HT.out | exact zero_ok) (by first | exact HT.out | exact zero_ok) (by first | exact HV.out | exact zero_ok)]; exact th_size
        have L9' : Hid ((thC 0 0 0 zeroD zeroD zeroD (.slice none 0 0) (.slice none 0 0) (.slice none 0 0)).length = (thC k n 0 t zeroD zeroD (.slice A N C) (.slice none 0 0) (.slice B M D)).length) := by show _ = _; rw [thC_len zero_ok zero_ok zero_ok, thC_len (by first | exact HT.out | exact zero_ok) (by first | exact HT.out | exact zero_ok) (by first | exact HV.out | exact zero_ok)]
        go_wp2_with (first
          | (with_reducible refine wpList_load_bk rfl 35 _ rfl w1.heap.size rfl (thC k n 0 t zeroD zeroD (.slice A N C) (.slice none 0 0) (.slice B M D)) 35 HF.out _ Try.underlying35 rfl L9.out ?_)
          | (with_reducible refine stop_store 35 _ _ rfl ?_))
        refine StopD.go ?_
        refine wpList_store_bk rfl 35 _ _ rfl (w.heap.size + 1) (thC k n 0 t zeroD zeroD (.slice A N C) (.slice none 0 0) (.slice B M D)) rfl rfl 35 _ HFR.out L9.out L9'.out th_one ?_
        intro wz hpz
        have HPZ := Lib.hid hpz
        clear hpz
        go_wp2_with fail
        refine bodyPost_ret (results_cell_bk (p := 2) (ty := 35) rfl _ _ (w.heap.size + 1) 35 _ _ rfl HPZ.out.bk Try.underlying35 rfl L9.out) rfl ?_
        have hbz : Below w.heap.size w wz := below_only HFB.out HPZ.out.only HFB.out.size (by omega)
        exact ⟨by rw [if_pos HK.out]; rfl, hbz⟩
      · go_wp2_with (with_reducible refine stop_store 3 _ _ rfl ?_)
        refine StopD.go ?_
        refine wpList_store_part rfl 3 _ _ rfl w1.heap.size 19 (.int .i64 1) [.int .i64 1] rfl rfl rfl 35 (.int .i64 k :: (staC n t (.slice A N C) ++ dl zeroD)) [.int .i64 0] (dl zeroD ++ [.slice none 0 0, .slice B M D]) (th_num HF.out) (by simp [staC_len HT.out]; rfl) rfl (by kernel_rfl) (by simp [Value.oneCell']) ?_
        intro w9 hp9
        have hf := num_th hp9.bk
        have hfr := HFR.out.grown hp9.only (by intro h; injection h with h; omega)
        have hfb := below_only HFB.out hp9.only HFB.out.size (by omega)
        clear HF HFR HFB
        have HF := Lib.hid hf
        have HFR := Lib.hid hfr
        have HFB := Lib.hid hfb
        clear hf hfr hfb hp9
        have L9 : Hid ((Try.prog.info? 35).map (·.size) = some (thC k n 1 t zeroD zeroD (.slice A N C) (.slice none 0 0) (.slice B M D)).length) := by show _ = _; rw [thC_len (by first | exact HT.out | exact zero_ok) (by first | exact HT.out | exact zero_ok) (by first | exact HV.out | exact zero_ok)]; exact th_size
        have L9' : Hid ((thC 0 0 0 zeroD zeroD zeroD (.slice none 0 0) (.slice none 0 0) (.slice none 0 0)).length = (thC k n 1 t zeroD zeroD (.slice A N C) (.slice none 0 0) (.slice B M D)).length) := by show _ = _; rw [thC_len zero_ok zero_ok zero_ok, thC_len (by first | exact HT.out | exact zero_ok) (by first | exact HT.out | exact zero_ok) (by first | exact HV.out | exact zero_ok)]
        go_wp2_with (first
          | (with_reducible refine wpList_load_bk rfl 35 _ rfl w1.heap.size rfl (thC k n 1 t zeroD zeroD (.slice A N C) (.slice none 0 0) (.slice B M D)) 35 HF.out _ Try.underlying35 rfl L9.out ?_)
          | (with_reducible refine stop_store 35 _ _ rfl ?_))
        refine StopD.go ?_
        refine wpList_store_bk rfl 35 _ _ rfl (w.heap.size + 1) (thC k n 1 t zeroD zeroD (.slice A N C) (.slice none 0 0) (.slice B M D)) rfl rfl 35 _ HFR.out L9.out L9'.out th_one ?_
        intro wz hpz
        have HPZ := Lib.hid hpz
        clear hpz
        go_wp2_with fail
        refine bodyPost_ret (results_cell_bk (p := 2) (ty := 35) rfl _ _ (w.heap.size + 1) 35 _ _ rfl HPZ.out.bk Try.underlying35 rfl L9.out) rfl ?_
        have hbz : Below w.heap.size w wz := below_only HFB.out HPZ.out.only HFB.out.size (by omega)
        exact ⟨by rw [if_pos HK.out]; rfl, hbz⟩
    · have hk1 : (k == 0) = false := by simp [hk]
      have HK := Lib.hid hk
      have hP7 : Bk w7 w1.heap.size 35 ((.int .i64 k :: staC 0 zeroD (.slice none 0 0)) ++ (actC 0 zeroD zeroD (.slice none 0 0) ++ [.slice B M D])) := HP7.out
      have HP7' := Lib.hid hP7
      clear hk hP7
      cases o
      all_goals
        go_wp2_with (first
          | (with_reducible refine wpList_load_bk rfl 33 _ rfl (w3.heap.size + 1) rfl (actC n t v (.slice A N C)) 33 HQ5.out _ Try.underlying33 rfl HAC.out ?_)
          | (with_reducible refine stop_store 33 _ _ rfl ?_))
        refine StopD.go ?_
        refine wpList_store_part rfl 33 _ _ rfl w1.heap.size 11 (.agg (actC n t v (.slice A N C)).toArray) (actC n t v (.slice A N C)) rfl rfl rfl 35 (.int .i64 k :: staC 0 zeroD (.slice none 0 0)) (actC 0 zeroD zeroD (.slice none 0 0)) [.slice B M D] HP7'.out rfl (by rw [actC_len HT.out HV.out, actC_len zero_ok zero_ok]) HAC.out ac_one ?_
        intro w8 hp8
        have c20 := (rt_mem HT.out HV.out (HXX.out w8 hp8.only)).c20
        have hf : Bk w8 w1.heap.size 35 (thC k 0 n zeroD t v (.slice none 0 0) (.slice A N C) (.slice B M D)) := hp8.bk
        have HF := Lib.hid hf
        have HFR := Lib.hid (HRR.out w8 hp8.only)
        have HFB := Lib.hid (HBB.out w8 hp8.only)
        have HS8 : Hid (w8.heap.size = w7.heap.size) := hp8.size
        clear hp8 hf
      · skip
        have L9 : Hid ((Try.prog.info? 35).map (·.size) = some (thC k 0 n zeroD t v (.slice none 0 0) (.slice A N C) (.slice B M D)).length) := by show _ = _; rw [thC_len (by first | exact HT.out | exact zero_ok) (by first | exact HT.out | exact zero_ok) (by first | exact HV.out | exact zero_ok)]; exact th_size
        have L9' : Hid ((thC 0 0 0 zeroD zeroD zeroD (.slice none 0 0) (.slice none 0 0) (.slice none 0 0)).length = (thC k 0 n zeroD t v (.slice none 0 0) (.slice A N C) (.slice B M D)).length) := by show _ = _; rw [thC_len zero_ok zero_ok zero_ok, thC_len (by first | exact HT.out | exact zero_ok) (by first | exact HT.out | exact zero_ok) (by first | exact HV.out | exact zero_ok)]
        go_wp2_with (first
          | (with_reducible refine wpList_load_bk rfl 35 _ rfl w1.heap.size rfl (thC k 0 n zeroD t v (.slice none 0 0) (.slice A N C) (.slice B M D)) 35 HF.out _ Try.underlying35 rfl L9.out ?_)
          | (with_reducible refine stop_store 35 _ _ rfl ?_))
        refine StopD.go ?_
        refine wpList_store_bk rfl 35 _ _ rfl (w.heap.size + 1) (thC k 0 n zeroD t v (.slice none 0 0) (.slice A N C) (.slice B M D)) rfl rfl 35 _ HFR.out L9.out L9'.out th_one ?_
        intro wz hpz
        have HPZ := Lib.hid hpz
        clear hpz
        go_wp2_with fail
        refine bodyPost_ret (results_cell_bk (p := 2) (ty := 35) rfl _ _ (w.heap.size + 1) 35 _ _ rfl HPZ.out.bk Try.underlying35 rfl L9.out) rfl ?_
        have hbz : Below w.heap.size w wz := below_only HFB.out HPZ.out.only HFB.out.size (by omega)
        refine ⟨?_, hbz⟩
        rw [if_neg HK.out]
        exact ⟨_, rfl, rfl⟩
      · go_wp2_with (with_reducible refine stop_store 23 _ _ rfl ?_)
        refine StopD.go ?_
        have hb9 := below_new w8 (.cells #[.int .u8 0] 5)
        refine wpList_store_part rfl 23 _ _ rfl w1.heap.size 10 (.slice (some ⟨w8.heap.size, 0, none⟩) 1 1) [.slice (some ⟨w8.heap.size, 0, none⟩) 1 1] rfl rfl rfl 35 (.int .i64 k :: (dl zeroD ++ [.int .i64 0])) [.slice none 0 0] (actC n t v (.slice A N C) ++ [.slice B M D]) (th_pos (HF.out.later hb9)) rfl rfl (by kernel_rfl) (by simp [Value.oneCell']) ?_
        intro w9 hp9
        have hl8 : w1.heap.size < w8.heap.size := HF.out.lt
        have hf := pos_th hp9.bk
        have hg := (Bk.new w8 5 #[.int .u8 0]).grown hp9.only (by intro h; injection h with h; omega)
        have hfr := (HFR.out.later hb9).grown hp9.only (by intro h; injection h with h; omega)
        have hfb := below_only (below_then HFB.out hb9) hp9.only (by have := HFB.out.size; simp; omega) (by omega)
        have hgb : w.heap.size ≤ w8.heap.size := HFB.out.size
        clear HF HFR HFB hb9
        have HF := Lib.hid hf
        have HFR := Lib.hid hfr
        have HFB := Lib.hid hfb
        have HG := Lib.hid hg
        have hl9 : w8.heap.size < w9.heap.size := hg.lt
        clear hf hfr hfb hp9 hg
        have L9 : Hid ((Try.prog.info? 35).map (·.size) = some (thC k 0 n zeroD t v (.slice (some ⟨w8.heap.size, 0, none⟩) 1 1) (.slice A N C) (.slice B M D)).length) := by show _ = _; rw [thC_len (by first | exact HT.out | exact zero_ok) (by first | exact HT.out | exact zero_ok) (by first | exact HV.out | exact zero_ok)]; exact th_size
        have L9' : Hid ((thC 0 0 0 zeroD zeroD zeroD (.slice none 0 0) (.slice none 0 0) (.slice none 0 0)).length = (thC k 0 n zeroD t v (.slice (some ⟨w8.heap.size, 0, none⟩) 1 1) (.slice A N C) (.slice B M D)).length) := by show _ = _; rw [thC_len zero_ok zero_ok zero_ok, thC_len (by first | exact HT.out | exact zero_ok) (by first | exact HT.out | exact zero_ok) (by first | exact HV.out | exact zero_ok)]
        go_wp2_with (first
          | (with_reducible refine wpList_load_bk rfl 35 _ rfl w1.heap.size rfl (thC k 0 n zeroD t v (.slice (some ⟨w8.heap.size, 0, none⟩) 1 1) (.slice A N C) (.slice B M D)) 35 HF.out _ Try.underlying35 rfl L9.out ?_)
          | (with_reducible refine stop_store 35 _ _ rfl ?_))
        refine StopD.go ?_
        refine wpList_store_bk rfl 35 _ _ rfl (w.heap.size + 1) (thC k 0 n zeroD t v (.slice (some ⟨w8.heap.size, 0, none⟩) 1 1) (.slice A N C) (.slice B M D)) rfl rfl 35 _ HFR.out L9.out L9'.out th_one ?_
        intro wz hpz
        have HPZ := Lib.hid hpz
        clear hpz
        go_wp2_with fail
        refine bodyPost_ret (results_cell_bk (p := 2) (ty := 35) rfl _ _ (w.heap.size + 1) 35 _ _ rfl HPZ.out.bk Try.underlying35 rfl L9.out) rfl ?_
        have hbz : Below w.heap.size w wz := below_only HFB.out HPZ.out.only HFB.out.size (by omega)
        refine ⟨?_, hbz⟩
        rw [if_neg HK.out]
        exact ⟨_, rfl, w8.heap.size, rfl, hgb, HG.out.grown HPZ.out.only (by intro h; injection h with h; omega)⟩
  · go_simp
    refine hK.out _ _ (((HK3.out.alloc _).drew)) (fun hHeld => ?_)
    clear hK K
    try simp only [Act.put, List.setIfInBounds_toArray, List.set_cons_zero, List.set_cons_succ, List.getElem_toArray, List.getElem_cons_zero, List.getElem_cons_succ]
    refine wpAnyH_ready (rs := [16]) (by kernel_rfl) (by simp) ?_
    refine AllReadyH.cons rfl (fun K hK => ?_) AllReadyH.nil
    go_simp
    refine hK.out _ _ ((((HK3.out.alloc _).alloc _).drew)) (fun hHeld => ?_)
    clear hK K
    try simp only [Act.put, List.setIfInBounds_toArray, List.set_cons_zero, List.set_cons_succ, List.getElem_toArray, List.getElem_cons_zero, List.getElem_cons_succ]
    have k4 : Bk (((w3.alloc (.cells #[.int .u8 0, .int .u8 0, .int .u8 0, .int .u8 0, .int .u8 0, .int .u8 0, .int .u8 0, .int .u8 0, .int .i64 0, .int .u8 0, .int .u8 0, .int .u8 0, .int .u8 0, .int .u8 0, .int .u8 0, .int .u8 0, .int .u8 0, .slice none 0 0] 33)).alloc (.cells #[.int .u8 0, .int .u8 0, .int .u8 0, .int .u8 0, .int .u8 0, .int .u8 0, .int .u8 0, .int .u8 0, .int .i64 0, .slice none 0 0] 31)).drew) (w3.heap.size + 1) 31 ([] ++ (staC 0 zeroD (.slice none 0 0) ++ [])) := (Bk.at_ _ _ #[.int .u8 0, .int .u8 0, .int .u8 0, .int .u8 0, .int .u8 0, .int .u8 0, .int .u8 0, .int .u8 0, .int .i64 0, .slice none 0 0] (by simp) rfl).drew
    have k5 : Bk (((w3.alloc (.cells #[.int .u8 0, .int .u8 0, .int .u8 0, .int .u8 0, .int .u8 0, .int .u8 0, .int .u8 0, .int .u8 0, .int .i64 0, .int .u8 0, .int .u8 0, .int .u8 0, .int .u8 0, .int .u8 0, .int .u8 0, .int .u8 0, .int .u8 0, .slice none 0 0] 33)).alloc (.cells #[.int .u8 0, .int .u8 0, .int .u8 0, .int .u8 0, .int .u8 0, .int .u8 0, .int .u8 0, .int .u8 0, .int .i64 0, .slice none 0 0] 31)).drew) w3.heap.size 33 ([] ++ (actC 0 zeroD zeroD (.slice none 0 0) ++ [])) := ((Bk.new' w3 _ #[.int .u8 0, .int .u8 0, .int .u8 0, .int .u8 0, .int .u8 0, .int .u8 0, .int .u8 0, .int .u8 0, .int .i64 0, .int .u8 0, .int .u8 0, .int .u8 0, .int .u8 0, .int .u8 0, .int .u8 0, .int .u8 0, .int .u8 0, .slice none 0 0] rfl).alloc _).drew
    have hbl : Below w3.heap.size w3 (((w3.alloc (.cells #[.int .u8 0, .int .u8 0, .int .u8 0, .int .u8 0, .int .u8 0, .int .u8 0, .int .u8 0, .int .u8 0, .int .i64 0, .int .u8 0, .int .u8 0, .int .u8 0, .int .u8 0, .int .u8 0, .int .u8 0, .int .u8 0, .int .u8 0, .slice none 0 0] 33)).alloc (.cells #[.int .u8 0, .int .u8 0, .int .u8 0, .int .u8 0, .int .u8 0, .int .u8 0, .int .u8 0, .int .u8 0, .int .i64 0, .slice none 0 0] 31)).drew) := ((below_new w3 _).alloc (by simp) _).drew
    have hsz : w3.heap.size ≤ (((w3.alloc (.cells #[.int .u8 0, .int .u8 0, .int .u8 0, .int .u8 0, .int .u8 0, .int .u8 0, .int .u8 0, .int .u8 0, .int .i64 0, .int .u8 0, .int .u8 0, .int .u8 0, .int .u8 0, .int .u8 0, .int .u8 0, .int .u8 0, .int .u8 0, .slice none 0 0] 33)).alloc (.cells #[.int .u8 0, .int .u8 0, .int .u8 0, .int .u8 0, .int .u8 0, .int .u8 0, .int .u8 0, .int .u8 0, .int .i64 0, .slice none 0 0] 31)).drew).heap.size := hbl.size
    have e1 := HZ1.out
    have e3 := HZ3'.out
    refine wpAnyH_ready (rs := [18]) (by kernel_rfl) (by simp) ?_
    refine AllReadyH.cons rfl (fun K hK => ?_) AllReadyH.nil
    rw [if_pos (by rfl)]
    refine wp_store_part _ _ _ rfl (w3.heap.size + 1) 0 _ (staC n t (.slice A N C)) rfl rfl rfl _ ([]) (staC 0 zeroD (.slice none 0 0)) ([]) k4 rfl (by rw [staC_len HT.out, staC_len zero_ok]) HST.out st_one ?_
    intro w5 hp5
    refine hK.out _ _ (hHeld.grown hp5.only (by intro h; injection h with h; omega)) (fun hHeld => ?_)
    clear hK K
    try simp only [Act.put, List.getElem_toArray, List.getElem_cons_zero, List.getElem_cons_succ]
    have k5' : Bk w5 ((w3.heap.size)) 33 ([] ++ (actC 0 zeroD zeroD (.slice none 0 0) ++ [])) := k5.grown hp5.only (by intro h; injection h with h; omega)
    refine wpAnyH_ready (rs := [19]) (by kernel_rfl) (by simp) ?_
    refine AllReadyH.cons rfl (fun K hK => ?_) AllReadyH.nil
    rw [if_pos (by rfl)]
    refine wp_store_part _ _ _ rfl (w3.heap.size) 0 _ (actC n t v (.slice A N C)) rfl rfl rfl _ ([]) (actC 0 zeroD zeroD (.slice none 0 0)) ([]) k5' rfl (by rw [actC_len HT.out HV.out, actC_len zero_ok zero_ok]) HAC.out ac_one ?_
    intro w7 hp7
    refine hK.out _ _ (hHeld.grown hp7.only (by intro h; injection h with h; omega)) (fun hHeld => ?_)
    clear hK K
    try simp only [Act.put, List.getElem_toArray, List.getElem_cons_zero, List.getElem_cons_succ]
    refine wpAnyH_done (by kernel_rfl) ?_ _
    have hQ4 : Bk w7 ((w3.heap.size + 1)) 31 (staC n t (.slice A N C)) := by have := hp5.bk.grown hp7.only (by intro h; injection h with h; omega); simpa using this
    have hQ5 : Bk w7 ((w3.heap.size)) 33 (actC n t v (.slice A N C)) := by have := hp7.bk; simpa using this
    have hB7 : Below w3.heap.size w3 w7 := (hbl.grown hp5.only hsz (fun q hq => by injection hq with hq; omega)).grown hp7.only (by rw [hp5.size]; exact hsz) (fun q hq => by injection hq with hq; omega)
    have hP7 := HP3.out.bk.later hB7
    have hX7 := HK3.out.later hB7
    have hR7 := HKR3.out.later hB7
    have HQ4 := Lib.hid hQ4; have HQ5 := Lib.hid hQ5; have HB7 := Lib.hid hB7; have HP7 := Lib.hid hP7; have HX7 := Lib.hid hX7; have HR7 := Lib.hid hR7
    have hm7 := rt_mem HT.out HV.out hX7
    have c0 := hm7.c0
    have c20 := hm7.c20
    clear e1 e3 hHeld k4 k5 k5' hp5 hp7 hbl hsz hQ4 hQ5 hB7 hP7 hX7 hR7 hm7
    have e1 : w.heap.size + 1 < w1.heap.size := by have := HZ1.out; omega
    have e3 : w1.heap.size < w3.heap.size := by have := HZ3'.out; omega
    have HXX : Hid (∀ w', w7.grownBy w' (some w1.heap.size) → Bk w' w.heap.size 25 (rtC k n t v (.slice A N C) (.slice B M D) o)) := fun w' h => HX7.out.grown h (by intro h; injection h with h; omega)
    have HRR : Hid (∀ w', w7.grownBy w' (some w1.heap.size) → Bk w' (w.heap.size + 1) 35 (thC 0 0 0 zeroD zeroD zeroD (.slice none 0 0) (.slice none 0 0) (.slice none 0 0))) := fun w' h => HR7.out.grown h (by intro h; injection h with h; omega)
    have HBB : Hid (∀ w', w7.grownBy w' (some w1.heap.size) → Below w.heap.size w w') := fun w' h => below_only (below_then HB.out (below_then HB3.out HB7.out)) h (by have := HB.out.size; have := HB3.out.size; have := HB7.out.size; omega) (by omega)
    by_cases hk : k = 0
    · have hk1 : (k == 0) = true := by simp [hk]
      have HK := Lib.hid hk
      have hP7 : Bk w7 w1.heap.size 35 ([.int .i64 k] ++ (staC 0 zeroD (.slice none 0 0) ++ (actC 0 zeroD zeroD (.slice none 0 0) ++ [.slice B M D]))) := HP7.out
      have HP7' := Lib.hid hP7
      clear hk hP7
      cases o
      all_goals
        go_wp2_with (first
          | (with_reducible refine wpList_load_bk rfl 31 _ rfl (w3.heap.size + 1) rfl (staC n t (.slice A N C)) 31 HQ4.out _ Try.underlying31 rfl HST.out ?_)
          | (with_reducible refine stop_store 31 _ _ rfl ?_))
        refine StopD.go ?_
        refine wpList_store_part rfl 31 _ _ rfl w1.heap.size 1 (.agg (staC n t (.slice A N C)).toArray) (staC n t (.slice A N C)) rfl rfl rfl 35 [.int .i64 k] (staC 0 zeroD (.slice none 0 0)) (actC 0 zeroD zeroD (.slice none 0 0) ++ [.slice B M D]) HP7'.out rfl (by rw [staC_len HT.out, staC_len zero_ok]) HST.out st_one ?_
        intro w8 hp8
        have c20 := (rt_mem HT.out HV.out (HXX.out w8 hp8.only)).c20
        have HF := Lib.hid (Put.st hp8)
        have HFR := Lib.hid (HRR.out w8 hp8.only)
        have HFB := Lib.hid (HBB.out w8 hp8.only)
        clear hp8
      · skip
        have L9 : Hid ((Try.prog.info? 35).map (·.size) = some (thC k n 0 t zeroD zeroD (.slice A N C) (.slice none 0 0) (.slice B M D)).length) := by show _ = _; rw [thC_len (by first | exact HT.out | exact zero_ok) (by first | exact HT.out | exact zero_ok) (by first | exact HV.out | exact zero_ok)]; exact th_size
        have L9' : Hid ((thC 0 0 0 zeroD zeroD zeroD (.slice none 0 0) (.slice none 0 0) (.slice none 0 0)).length = (thC k n 0 t zeroD zeroD (.slice A N C) (.slice none 0 0) (.slice B M D)).length) := by show _ = _; rw [thC_len zero_ok zero_ok zero_ok, thC_len (by first | exact HT.out | exact zero_ok) (by first | exact HT.out | exact zero_ok) (by first | exact HV.out | exact zero_ok)]
        go_wp2_with (first
          | (with_reducible refine wpList_load_bk rfl 35 _ rfl w1.heap.size rfl (thC k n 0 t zeroD zeroD (.slice A N C) (.slice none 0 0) (.slice B M D)) 35 HF.out _ Try.underlying35 rfl L9.out ?_)
          | (with_reducible refine stop_store 35 _ _ rfl ?_))
        refine StopD.go ?_
        refine wpList_store_bk rfl 35 _ _ rfl (w.heap.size + 1) (thC k n 0 t zeroD zeroD (.slice A N C) (.slice none 0 0) (.slice B M D)) rfl rfl 35 _ HFR.out L9.out L9'.out th_one ?_
        intro wz hpz
        have HPZ := Lib.hid hpz
        clear hpz
        go_wp2_with fail
        refine bodyPost_ret (results_cell_bk (p := 2) (ty := 35) rfl _ _ (w.heap.size + 1) 35 _ _ rfl HPZ.out.bk Try.underlying35 rfl L9.out) rfl ?_
        have hbz : Below w.heap.size w wz := below_only HFB.out HPZ.out.only HFB.out.size (by omega)
        exact ⟨by rw [if_pos HK.out]; rfl, hbz⟩
      · go_wp2_with (with_reducible refine stop_store 3 _ _ rfl ?_)
        refine StopD.go ?_
        refine wpList_store_part rfl 3 _ _ rfl w1.heap.size 19 (.int .i64 1) [.int .i64 1] rfl rfl rfl 35 (.int .i64 k :: (staC n t (.slice A N C) ++ dl zeroD)) [.int .i64 0] (dl zeroD ++ [.slice none 0 0, .slice B M D]) (th_num HF.out) (by simp [staC_len HT.out]; rfl) rfl (by kernel_rfl) (by simp [Value.oneCell']) ?_
        intro w9 hp9
        have hf := num_th hp9.bk
        have hfr := HFR.out.grown hp9.only (by intro h; injection h with h; omega)
        have hfb := below_only HFB.out hp9.only HFB.out.size (by omega)
        clear HF HFR HFB
        have HF := Lib.hid hf
        have HFR := Lib.hid hfr
        have HFB := Lib.hid hfb
        clear hf hfr hfb hp9
        have L9 : Hid ((Try.prog.info? 35).map (·.size) = some (thC k n 1 t zeroD zeroD (.slice A N C) (.slice none 0 0) (.slice B M D)).length) := by show _ = _; rw [thC_len (by first | exact HT.out | exact zero_ok) (by first | exact HT.out | exact zero_ok) (by first | exact HV.out | exact zero_ok)]; exact th_size
        have L9' : Hid ((thC 0 0 0 zeroD zeroD zeroD (.slice none 0 0) (.slice none 0 0) (.slice none 0 0)).length = (thC k n 1 t zeroD zeroD (.slice A N C) (.slice none 0 0) (.slice B M D)).length) := by show _ = _; rw [thC_len zero_ok zero_ok zero_ok, thC_len (by first | exact HT.out | exact zero_ok) (by first | exact HT.out | exact zero_ok) (by first | exact HV.out | exact zero_ok)]
        go_wp2_with (first
          | (with_reducible refine wpList_load_bk rfl 35 _ rfl w1.heap.size rfl (thC k n 1 t zeroD zeroD (.slice A N C) (.slice none 0 0) (.slice B M D)) 35 HF.out _ Try.underlying35 rfl L9.out ?_)
          | (with_reducible refine stop_store 35 _ _ rfl ?_))
        refine StopD.go ?_
        refine wpList_store_bk rfl 35 _ _ rfl (w.heap.size + 1) (thC k n 1 t zeroD zeroD (.slice A N C) (.slice none 0 0) (.slice B M D)) rfl rfl 35 _ HFR.out L9.out L9'.out th_one ?_
        intro wz hpz
        have HPZ := Lib.hid hpz
        clear hpz
        go_wp2_with fail
        refine bodyPost_ret (results_cell_bk (p := 2) (ty := 35) rfl _ _ (w.heap.size + 1) 35 _ _ rfl HPZ.out.bk Try.underlying35 rfl L9.out) rfl ?_
        have hbz : Below w.heap.size w wz := below_only HFB.out HPZ.out.only HFB.out.size (by omega)
        exact ⟨by rw [if_pos HK.out]; rfl, hbz⟩
    · have hk1 : (k == 0) = false := by simp [hk]
      have HK := Lib.hid hk
      have hP7 : Bk w7 w1.heap.size 35 ((.int .i64 k :: staC 0 zeroD (.slice none 0 0)) ++ (actC 0 zeroD zeroD (.slice none 0 0) ++ [.slice B M D])) := HP7.out
      have HP7' := Lib.hid hP7
      clear hk hP7
      cases o
      all_goals
        go_wp2_with (first
          | (with_reducible refine wpList_load_bk rfl 33 _ rfl (w3.heap.size) rfl (actC n t v (.slice A N C)) 33 HQ5.out _ Try.underlying33 rfl HAC.out ?_)
          | (with_reducible refine stop_store 33 _ _ rfl ?_))
        refine StopD.go ?_
        refine wpList_store_part rfl 33 _ _ rfl w1.heap.size 11 (.agg (actC n t v (.slice A N C)).toArray) (actC n t v (.slice A N C)) rfl rfl rfl 35 (.int .i64 k :: staC 0 zeroD (.slice none 0 0)) (actC 0 zeroD zeroD (.slice none 0 0)) [.slice B M D] HP7'.out rfl (by rw [actC_len HT.out HV.out, actC_len zero_ok zero_ok]) HAC.out ac_one ?_
        intro w8 hp8
        have c20 := (rt_mem HT.out HV.out (HXX.out w8 hp8.only)).c20
        have hf : Bk w8 w1.heap.size 35 (thC k 0 n zeroD t v (.slice none 0 0) (.slice A N C) (.slice B M D)) := hp8.bk
        have HF := Lib.hid hf
        have HFR := Lib.hid (HRR.out w8 hp8.only)
        have HFB := Lib.hid (HBB.out w8 hp8.only)
        have HS8 : Hid (w8.heap.size = w7.heap.size) := hp8.size
        clear hp8 hf
      · skip
        have L9 : Hid ((Try.prog.info? 35).map (·.size) = some (thC k 0 n zeroD t v (.slice none 0 0) (.slice A N C) (.slice B M D)).length) := by show _ = _; rw [thC_len (by first | exact HT.out | exact zero_ok) (by first | exact HT.out | exact zero_ok) (by first | exact HV.out | exact zero_ok)]; exact th_size
        have L9' : Hid ((thC 0 0 0 zeroD zeroD zeroD (.slice none 0 0) (.slice none 0 0) (.slice none 0 0)).length = (thC k 0 n zeroD t v (.slice none 0 0) (.slice A N C) (.slice B M D)).length) := by show _ = _; rw [thC_len zero_ok zero_ok zero_ok, thC_len (by first | exact HT.out | exact zero_ok) (by first | exact HT.out | exact zero_ok) (by first | exact HV.out | exact zero_ok)]
        go_wp2_with (first
          | (with_reducible refine wpList_load_bk rfl 35 _ rfl w1.heap.size rfl (thC k 0 n zeroD t v (.slice none 0 0) (.slice A N C) (.slice B M D)) 35 HF.out _ Try.underlying35 rfl L9.out ?_)
          | (with_reducible refine stop_store 35 _ _ rfl ?_))
        refine StopD.go ?_
        refine wpList_store_bk rfl 35 _ _ rfl (w.heap.size + 1) (thC k 0 n zeroD t v (.slice none 0 0) (.slice A N C) (.slice B M D)) rfl rfl 35 _ HFR.out L9.out L9'.out th_one ?_
        intro wz hpz
        have HPZ := Lib.hid hpz
        clear hpz
        go_wp2_with fail
        refine bodyPost_ret (results_cell_bk (p := 2) (ty := 35) rfl _ _ (w.heap.size + 1) 35 _ _ rfl HPZ.out.bk Try.underlying35 rfl L9.out) rfl ?_
        have hbz : Below w.heap.size w wz := below_only HFB.out HPZ.out.only HFB.out.size (by omega)
        refine ⟨?_, hbz⟩
        rw [if_neg HK.out]
        exact ⟨_, rfl, rfl⟩
      · go_wp2_with (with_reducible refine stop_store 23 _ _ rfl ?_)
        refine StopD.go ?_
        have hb9 := below_new w8 (.cells #[.int .u8 0] 5)
        refine wpList_store_part rfl 23 _ _ rfl w1.heap.size 10 (.slice (some ⟨w8.heap.size, 0, none⟩) 1 1) [.slice (some ⟨w8.heap.size, 0, none⟩) 1 1] rfl rfl rfl 35 (.int .i64 k :: (dl zeroD ++ [.int .i64 0])) [.slice none 0 0] (actC n t v (.slice A N C) ++ [.slice B M D]) (th_pos (HF.out.later hb9)) rfl rfl (by kernel_rfl) (by simp [Value.oneCell']) ?_
        intro w9 hp9
        have hl8 : w1.heap.size < w8.heap.size := HF.out.lt
        have hf := pos_th hp9.bk
        have hg := (Bk.new w8 5 #[.int .u8 0]).grown hp9.only (by intro h; injection h with h; omega)
        have hfr := (HFR.out.later hb9).grown hp9.only (by intro h; injection h with h; omega)
        have hfb := below_only (below_then HFB.out hb9) hp9.only (by have := HFB.out.size; simp; omega) (by omega)
        have hgb : w.heap.size ≤ w8.heap.size := HFB.out.size
        clear HF HFR HFB hb9
        have HF := Lib.hid hf
        have HFR := Lib.hid hfr
        have HFB := Lib.hid hfb
        have HG := Lib.hid hg
        have hl9 : w8.heap.size < w9.heap.size := hg.lt
        clear hf hfr hfb hp9 hg
        have L9 : Hid ((Try.prog.info? 35).map (·.size) = some (thC k 0 n zeroD t v (.slice (some ⟨w8.heap.size, 0, none⟩) 1 1) (.slice A N C) (.slice B M D)).length) := by show _ = _; rw [thC_len (by first | exact HT.out | exact zero_ok) (by first | exact HT.out | exact zero_ok) (by first | exact HV.out | exact zero_ok)]; exact th_size
        have L9' : Hid ((thC 0 0 0 zeroD zeroD zeroD (.slice none 0 0) (.slice none 0 0) (.slice none 0 0)).length = (thC k 0 n zeroD t v (.slice (some ⟨w8.heap.size, 0, none⟩) 1 1) (.slice A N C) (.slice B M D)).length) := by show _ = _; rw [thC_len zero_ok zero_ok zero_ok, thC_len (by first | exact HT.out | exact zero_ok) (by first | exact HT.out | exact zero_ok) (by first | exact HV.out | exact zero_ok)]
        go_wp2_with (first
          | (with_reducible refine wpList_load_bk rfl 35 _ rfl w1.heap.size rfl (thC k 0 n zeroD t v (.slice (some ⟨w8.heap.size, 0, none⟩) 1 1) (.slice A N C) (.slice B M D)) 35 HF.out _ Try.underlying35 rfl L9.out ?_)
          | (with_reducible refine stop_store 35 _ _ rfl ?_))
        refine StopD.go ?_
        refine wpList_store_bk rfl 35 _ _ rfl (w.heap.size + 1) (thC k 0 n zeroD t v (.slice (some ⟨w8.heap.size, 0, none⟩) 1 1) (.slice A N C) (.slice B M D)) rfl rfl 35 _ HFR.out L9.out L9'.out th_one ?_
        intro wz hpz
        have HPZ := Lib.hid hpz
        clear hpz
        go_wp2_with fail
        refine bodyPost_ret (results_cell_bk (p := 2) (ty := 35) rfl _ _ (w.heap.size + 1) 35 _ _ rfl HPZ.out.bk Try.underlying35 rfl L9.out) rfl ?_
        have hbz : Below w.heap.size w wz := below_only HFB.out HPZ.out.only HFB.out.size (by omega)
        refine ⟨?_, hbz⟩
        rw [if_neg HK.out]
        exact ⟨_, rfl, w8.heap.size, rfl, hgb, HG.out.grown HPZ.out.only (by intro h; injection h with h; omega)⟩
end Go.Proofs.Ythibihjblodfmaa
