/- The book: a message is signed. -/
import Derived.Test.YthibihjblodfmaaN2
import Derived.Test.YthibihjblodfmaaFrame2
namespace Go.Proofs.Ythibihjblodfmaa
open Go.RowKit Go.Maps

section
variable {P : Program}
theorem wp_bslice {o : Oper} {a : Act} {w : World} {K : Act → World → Prop} {Q : Exit → Act → World → Prop} (t : TypeId) (n : Nat) (parts : Array (Nat × Operand)) (ho : o.op = .buildSlice t n parts) (vals : Array (Nat × Value))
    (hv : (parts.map fun x => (x.1, a.eval x.2)) = vals) (v : Value) (w' : World) (hb : (Instr.buildSlice t n vals).run P w = .ok v w') (h : K (a.put o.dst v) w') : o.wp P a w K Q := by
  subst hv
  unfold Oper.wp execOp
  simp only [ho, Sem.run_bind, hb, Result.andThen_ok, Sem.run_pure]
  exact h
theorem wp_mapU {o : Oper} {a : Act} {w : World} {K : Act → World → Prop} {Q : Exit → Act → World → Prop} (t : TypeId) (m x v : Operand) (ho : o.op = .mapUpdate t m x v) (M X V : Value) (hm : a.eval m = M) (hx : a.eval x = X) (hv : a.eval v = V) (w' : World)
    (hb : (Instr.mapUpdate t M X V).run P w = .ok () w') (h : K (a.put o.dst undef) w') : o.wp P a w K Q := by
  unfold Oper.wp
  simp [execOp, ho, hm, hx, hv, hb, Result.andThen]
  exact h
end
theorem map_apart {w : World} {base size n m b : Nat} {e : TypeId} {v : Value} {xs : List Value} {P : Program} {k : TypeId} {R : Value → Option (DataW Unit × List MemPlace)} {D : DataW Unit} (h : w.ownsMap P k R b m D) (ho : w.ownsRow base e size v n xs) : some b ≠ v.ownBlock := by
  intro he
  rcases own_bk ho with ⟨rfl, _⟩ | ⟨q, cap, zs, rfl, _, hb, _⟩
  · simp [Value.ownBlock] at he
  · have he : b = q := by simpa [Value.ownBlock] using he
    subst he
    obtain ⟨ms, c, hm, _⟩ := h
    unfold Bk at hb; rw [hb] at hm; cases hm
theorem map_ne {w : World} {m b g : Nat} {t : TypeId} {xs : List Value} {P : Program} {k : TypeId} {R : Value → Option (DataW Unit × List MemPlace)} {D : DataW Unit} (h : w.ownsMap P k R b m D) (ho : Bk w g t xs) : b ≠ g := by
  rintro rfl
  obtain ⟨ms, c, hm, _⟩ := h
  unfold Bk at ho; rw [ho] at hm; cases hm
theorem keeps_own {w w' : World} {base size n : Nat} {v : Value} {xs : List Value} (ho : w.ownsRow base 154 size v n xs) (hg : w.grownBy w' v.ownBlock) : Keeps w w' := by
  rcases own_bk ho with ⟨rfl, _⟩ | ⟨q, cap, zs, rfl, _, hb, _⟩
  · exact ⟨hg.size, fun i cs t fr hi _ _ => hg.block i (Array.getElem?_eq_some_iff.1 hi).1 (by simp [Value.ownBlock])⟩
  · exact Keeps.of_grown hg hb (.inr rfl)
theorem keeps_map {w w' : World} {m b : Nat} {P : Program} {k : TypeId} {R : Value → Option (DataW Unit × List MemPlace)} {D : DataW Unit} (h : w.ownsMap P k R b m D) (hg : w.grownBy w' (some b)) : Keeps w w' := by
  obtain ⟨ms, c, hm, _⟩ := h
  exact Keeps.of_map hg hm

theorem bk2 {w : World} {g : Nat} {t : TypeId} {a b : Value} (h : Bk w g t [a, b]) : w.cell? ⟨g, 0, none⟩ = some a ∧ w.cell? ⟨g, 1, none⟩ = some b := ⟨by rw [h.cell]; rfl, by rw [h.cell]; rfl⟩
theorem sig_own {w : World} {i : Nat} (_hi : i < 65536) : OwnB w.heap.size (sigB i) w (.slice (some ⟨w.heap.size, 0, none⟩) 2 2) (w.alloc (.cells #[.int .u8 ((i : Int) % 256), .int .u8 ((i : Int) / 256)] 5)) := by
  have e : (sigB i).map (Value.int .u8) = [.int .u8 ((i : Int) % 256), .int .u8 ((i : Int) / 256)] := by simp [sigB]
  refine ⟨?_, below_new w _⟩
  rw [e]
  exact (Bk.new' w 5 #[.int .u8 ((i : Int) % 256), .int .u8 ((i : Int) / 256)] rfl).own (Nat.le_refl _) (Nat.le_refl _) (by omega) rfl rfl

/-- What signing hands back. -/
def RetSig (lo g : Nat) (es : List Ent) (e : Ent) (w : World) (en : Ending) (w' : World) : Prop :=
  (∃ A c, en = .returned (.tuple #[.slice A 2 c, .int .i64 0]) ∧ w'.ownsRow w.heap.size 5 1 (.slice A 2 c) 2 ((sigB (es.idxOf e)).map (.int .u8))) ∧ BookAt w' lo g (bookS es e) ∧ Below lo w w' ∧ Keeps w w'
theorem entC_nat {es : List Ent} (h : BookOk es) : (es.flatMap entC).length = es.length * 16 := flat_len es (fun e he => entC_len (h.1 e he))
theorem Try.infoEnt : (Try.prog.info? 154).map (fun i => (i.zero.map fun z => z.cells.size, i.size, i.bytes)) = some (some 16, 16, 16) := by kernel_rfl

set_option maxRecDepth 20000 in
set_option maxHeartbeats 4000000 in
theorem sign_any (w : World) (lo g : Nat) (es : List Ent) (hbk : BookAt w lo g es) (e : Ent) (he : EntOk e) (hl : es.length < 65536) :
    Calls Try.prog 166 #[.pointer (some ⟨g, 0, none⟩), .agg (entC e).toArray] w (RetSig lo g es e w) := by
  have hgl := hbk.lt
  obtain ⟨V, b, k1, k2, k3, hlg, hlb, hok⟩ := hbk
  obtain ⟨A, c, rfl⟩ := own_form k2
  obtain ⟨n, hn⟩ : ∃ n, es.length = n := ⟨_, rfl⟩
  have HN := Lib.hid hn
  rw [hn] at k1 k2 k3 hl
  have HRB : Hid (∀ q, (Value.slice A n c).ownBlock = some q → q < w.heap.size) := fun q h => (k2.lt q h).2
  have hlw : lo ≤ w.heap.size := Nat.le_trans hlg (Nat.le_of_lt hgl)
  obtain ⟨X, hX⟩ : ∃ X, (entC e).toArray = X := ⟨_, rfl⟩
  obtain ⟨w1, hw1⟩ : ∃ w1, w.alloc (.cells X 154) = w1 := ⟨_, rfl⟩
  have hb1 : Below w.heap.size w w1 := hw1 ▸ below_new w _
  have kx : Bk w1 w.heap.size 154 (entC e) := hw1 ▸ Bk.new' w _ X (by rw [← hX])
  have HW := Lib.hid hw1; have HB1 := Lib.hid hb1; have HX := Lib.hid kx; have HE := Lib.hid he; have HOK := Lib.hid hok
  have HK1 := Lib.hid (k1.later hb1); have HK2 := Lib.hid (own_keep k2 hb1)
  have HK3 : Hid (w1.ownsMap (H := Unit) Try.prog 154 (plainElem Try.prog 3) b n (bookD es)) := k3.kept (row := none) ⟨hb1.os, hb1.tape, hb1.output, hb1.size, fun k hk _ => hb1.block k hk⟩ (by simp)
  have HE16 : Hid ((Try.prog.info? 154).map (·.size) = some (entC e).length) := by show _ = _; rw [entC_len he]; kernel_rfl
  obtain ⟨i0, hi0, hi1⟩ : ∃ i, Try.prog.info? 154 = some i ∧ (i.zero.map (fun z => z.cells.size), i.size, i.bytes) = (some 16, 16, 16) := by
    have := Try.infoEnt
    cases hq : Try.prog.info? 154 with
    | none => rw [hq] at this; cases this
    | some i => rw [hq] at this; exact ⟨i, rfl, by simpa using this⟩
  simp only [Prod.mk.injEq] at hi1
  obtain ⟨hiz, his, hib⟩ := hi1
  obtain ⟨z0, hz0, hz1⟩ := Option.map_eq_some_iff.1 hiz
  rw [hX]
  clear hX hw1 hb1 kx he hok k1 k2 k3 hiz hn
  obtain ⟨I, hI⟩ : ∃ I, es.idxOf e = I := ⟨_, rfl⟩
  have hI0 := idx_le es e
  rw [hI, HN.out] at hI0
  have HI := Lib.hid hI
  clear hI
  have hI1 : (I : Int) < 65536 := by omega
  have hw1 : IntKind.u8.wrap (I : Int) = (I : Int) % 256 := IntKind.wrap_u8 _
  have hw2 : IntKind.u8.wrap ((I : Int) / 256) = (I : Int) / 256 := by rw [IntKind.wrap_u8]; omega
  by_cases hm : e ∈ es
  · have HLK : Hid (∀ w', w'.ownsMap (H := Unit) Try.prog 154 (plainElem Try.prog 3) b n (bookD es) → (Instr.lookup 146 (.map (some b)) (.agg (entC e).toArray) true).run Try.prog w' = .ok (.tuple #[.int .i64 I, .bool true]) w') := fun w' h => by
      have := book_look h HOK.out HE.out
      rw [if_pos hm, HI.out, show decide (e ∈ es) = true by simpa using hm] at this
      exact this
    have HES : Hid (bookS es e = es) := by show _ = _; rw [bookS, if_pos hm]
    clear hm
    go_enter Try.func166, Try.ntmps166
    go_upto_region 1 with fail
    rw [HW.out]
    go_wp2_with fail
    refine wp_region_held_drew (S := fun w' => Bk w' w.heap.size 154 (entC e) ∧ Bk w' g 149 [.slice A n c, .map (some b)] ∧ w'.ownsMap (H := Unit) Try.prog 154 (plainElem Try.prog 3) b n (bookD es)) (by kernel_rfl) ⟨Bk.drew HX.out, Bk.drew HK1.out, HK3.out.drew⟩ (fun hHeld => ?_)
    refine wpAnyH_take (i := 0) (v := ?_) rfl (by kernel_rfl) (by kernel_rfl) (by kernel_rfl) (fun _ _ _ h => h) (Or.inl ⟨by rfl, ?_⟩) (by assumption) ?_
    rotate_left
    · intro w hSw
      (try dsimp only at hSw)
      go_simp
      try with_reducible rfl
    try simp only [Act.put, List.setIfInBounds_toArray, List.set_cons_zero, List.set_cons_succ, List.getElem_toArray, List.getElem_cons_zero]
    refine wpAnyH_take (i := 1) (v := ?_) rfl (by kernel_rfl) (by kernel_rfl) (by kernel_rfl) (fun _ _ _ h => h) (Or.inl ⟨by rfl, ?_⟩) (by assumption) ?_
    rotate_left
    · intro w hSw
      (try dsimp only at hSw)
      go_simp
      try with_reducible rfl
    try simp only [Act.put, List.setIfInBounds_toArray, List.set_cons_zero, List.set_cons_succ, List.getElem_toArray, List.getElem_cons_zero, List.getElem_cons_succ]
    refine wpAnyH_take (i := 2) (v := ?_) rfl (by kernel_rfl) (by kernel_rfl) (by kernel_rfl) (fun _ _ _ h => h) (Or.inl ⟨by rfl, ?_⟩) (by assumption) ?_
    rotate_left
    · intro w hSw
      (try dsimp only at hSw)
      go_simp
      try with_reducible rfl
    try simp only [Act.put, List.setIfInBounds_toArray, List.set_cons_zero, List.set_cons_succ, List.getElem_toArray, List.getElem_cons_zero, List.getElem_cons_succ]
    refine wpAnyH_take (i := 3) (v := ?_) rfl (by kernel_rfl) (by kernel_rfl) (by kernel_rfl) (fun _ _ _ h => h) (Or.inl ⟨by rfl, ?_⟩) (by assumption) ?_
    rotate_left
    · intro w hSw
      have hcell := (bk2 hSw.2.1).2
      clear hSw
      go_simp
      try with_reducible rfl
    try simp only [Act.put, List.setIfInBounds_toArray, List.set_cons_zero, List.set_cons_succ, List.getElem_toArray, List.getElem_cons_zero, List.getElem_cons_succ]
    refine wpAnyH_take (i := 4) (v := .agg (List.toArray (entC e))) rfl (by kernel_rfl) (by kernel_rfl) (by kernel_rfl) (fun _ _ _ h => h) (yieldsIf_load_mid (by rfl) _ _ rfl _ _ rfl (entC e) _ (fun w hSw => (Bk.range (pre := []) (post := []) (by simpa using hSw.1) rfl)) Try.underlying154 rfl (HE16.out)) (by assumption) ?_
    try simp only [Act.put, List.setIfInBounds_toArray, List.set_cons_zero, List.set_cons_succ, List.getElem_toArray, List.getElem_cons_zero, List.getElem_cons_succ]
    refine wpAnyH_take (i := 5) (v := ?_) rfl (by kernel_rfl) (by kernel_rfl) (by kernel_rfl) (fun _ _ _ h => h) (Or.inl ⟨by rfl, ?_⟩) (by assumption) ?_
    rotate_left
    · intro w hSw
      have hcell := HLK.out _ hSw.2.2
      clear hSw
      go_simp
      try with_reducible rfl
    try simp only [Act.put, List.setIfInBounds_toArray, List.set_cons_zero, List.set_cons_succ, List.getElem_toArray, List.getElem_cons_zero, List.getElem_cons_succ]
    refine wpAnyH_take (i := 6) (v := ?_) rfl (by kernel_rfl) (by kernel_rfl) (by kernel_rfl) (fun _ _ _ h => h) (Or.inl ⟨by rfl, ?_⟩) (by assumption) ?_
    rotate_left
    · intro w hSw
      (try dsimp only at hSw)
      go_simp
      try with_reducible rfl
    try simp only [Act.put, List.setIfInBounds_toArray, List.set_cons_zero, List.set_cons_succ, List.getElem_toArray, List.getElem_cons_zero, List.getElem_cons_succ]
    refine wpAnyH_take (i := 7) (v := ?_) rfl (by kernel_rfl) (by kernel_rfl) (by kernel_rfl) (fun _ _ _ h => h) (Or.inl ⟨by rfl, ?_⟩) (by assumption) ?_
    rotate_left
    · intro w hSw
      (try dsimp only at hSw)
      go_simp
      try with_reducible rfl
    try simp only [Act.put, List.setIfInBounds_toArray, List.set_cons_zero, List.set_cons_succ, List.getElem_toArray, List.getElem_cons_zero, List.getElem_cons_succ]
    refine wpAnyH_take (i := 8) (v := ?_) rfl (by kernel_rfl) (by kernel_rfl) (by kernel_rfl) (fun _ _ _ h => h) (Or.inl ⟨by rfl, ?_⟩) (by assumption) ?_
    rotate_left
    · intro w hSw
      (try dsimp only at hSw)
      go_simp
      try with_reducible rfl
    try simp only [Act.put, List.setIfInBounds_toArray, List.set_cons_zero, List.set_cons_succ, List.getElem_toArray, List.getElem_cons_zero, List.getElem_cons_succ]
    refine wpAnyH_take (i := 9) (v := ?_) rfl (by kernel_rfl) (by kernel_rfl) (by kernel_rfl) (fun _ _ _ h => h) (Or.inl ⟨by rfl, ?_⟩) (by assumption) ?_
    rotate_left
    · intro w hSw
      (try dsimp only at hSw)
      go_simp
      try with_reducible rfl
    try simp only [Act.put, List.setIfInBounds_toArray, List.set_cons_zero, List.set_cons_succ, List.getElem_toArray, List.getElem_cons_zero, List.getElem_cons_succ]
    refine wpAnyH_take (i := 10) (v := ?_) rfl (by kernel_rfl) (by kernel_rfl) (by kernel_rfl) (fun _ _ _ h => h) (Or.inl ⟨by rfl, ?_⟩) (by assumption) ?_
    rotate_left
    · intro w hSw
      (try dsimp only at hSw)
      go_simp
      try with_reducible rfl
    try simp only [Act.put, List.setIfInBounds_toArray, List.set_cons_zero, List.set_cons_succ, List.getElem_toArray, List.getElem_cons_zero, List.getElem_cons_succ]
    refine wpAnyH_done (by kernel_rfl) ?_ _
    clear hHeld
    go_wp2_with fail
    go_ret2
    have hs := sig_own (w := w1) (i := I) (by omega)
    refine ⟨⟨_, _, rfl, ?_⟩, ?_, (HB1.out.mono hlw).trans (hs.2.drew.mono (Nat.le_trans hlw HB1.out.size)), (Keeps.of_below HB1.out).trans (Keeps.of_below hs.2.drew)⟩
    · rw [HI.out]; exact own_base hs.1 HB1.out.size
    · rw [HES.out]
      exact BookAt.later ⟨_, b, HK1.out, by rw [HN.out]; exact HK2.out, by rw [HN.out]; exact HK3.out, hlg, hlb, HOK.out⟩ hs.2.drew
  · have HLK : Hid (∀ w', w'.ownsMap (H := Unit) Try.prog 154 (plainElem Try.prog 3) b n (bookD es) → (Instr.lookup 146 (.map (some b)) (.agg (entC e).toArray) true).run Try.prog w' = .ok (.tuple #[.int .i64 0, .bool false]) w') := fun w' h => by
      have := book_look h HOK.out HE.out
      rw [if_neg hm, show decide (e ∈ es) = false by simpa using hm] at this
      exact this
    have HES : Hid (bookS es e = es ++ [e]) := by show _ = _; rw [bookS, if_neg hm]
    obtain rfl : n = I := by rw [← HI.out, List.idxOf_eq_length hm, HN.out]
    have HNM := Lib.hid hm
    clear hm
    go_enter Try.func166, Try.ntmps166
    go_upto_region 1 with fail
    rw [HW.out]
    go_wp2_with fail
    refine wp_region_held_drew (S := fun w' => Bk w' w.heap.size 154 (entC e) ∧ Bk w' g 149 [.slice A n c, .map (some b)] ∧ w'.ownsMap (H := Unit) Try.prog 154 (plainElem Try.prog 3) b n (bookD es)) (by kernel_rfl) ⟨Bk.drew HX.out, Bk.drew HK1.out, HK3.out.drew⟩ (fun hHeld => ?_)
    refine wpAnyH_take (i := 0) (v := ?_) rfl (by kernel_rfl) (by kernel_rfl) (by kernel_rfl) (fun _ _ _ h => h) (Or.inl ⟨by rfl, ?_⟩) (by assumption) ?_
    rotate_left
    · intro w hSw
      (try dsimp only at hSw)
      go_simp
      try with_reducible rfl
    try simp only [Act.put, List.setIfInBounds_toArray, List.set_cons_zero, List.set_cons_succ, List.getElem_toArray, List.getElem_cons_zero]
    refine wpAnyH_take (i := 1) (v := ?_) rfl (by kernel_rfl) (by kernel_rfl) (by kernel_rfl) (fun _ _ _ h => h) (Or.inl ⟨by rfl, ?_⟩) (by assumption) ?_
    rotate_left
    · intro w hSw
      (try dsimp only at hSw)
      go_simp
      try with_reducible rfl
    try simp only [Act.put, List.setIfInBounds_toArray, List.set_cons_zero, List.set_cons_succ, List.getElem_toArray, List.getElem_cons_zero, List.getElem_cons_succ]
    refine wpAnyH_take (i := 2) (v := ?_) rfl (by kernel_rfl) (by kernel_rfl) (by kernel_rfl) (fun _ _ _ h => h) (Or.inl ⟨by rfl, ?_⟩) (by assumption) ?_
    rotate_left
    · intro w hSw
      (try dsimp only at hSw)
      go_simp
      try with_reducible rfl
    try simp only [Act.put, List.setIfInBounds_toArray, List.set_cons_zero, List.set_cons_succ, List.getElem_toArray, List.getElem_cons_zero, List.getElem_cons_succ]
    refine wpAnyH_take (i := 3) (v := ?_) rfl (by kernel_rfl) (by kernel_rfl) (by kernel_rfl) (fun _ _ _ h => h) (Or.inl ⟨by rfl, ?_⟩) (by assumption) ?_
    rotate_left
    · intro w hSw
      have hcell := (bk2 hSw.2.1).2
      clear hSw
      go_simp
      try with_reducible rfl
    try simp only [Act.put, List.setIfInBounds_toArray, List.set_cons_zero, List.set_cons_succ, List.getElem_toArray, List.getElem_cons_zero, List.getElem_cons_succ]
    refine wpAnyH_take (i := 4) (v := .agg (List.toArray (entC e))) rfl (by kernel_rfl) (by kernel_rfl) (by kernel_rfl) (fun _ _ _ h => h) (yieldsIf_load_mid (by rfl) _ _ rfl _ _ rfl (entC e) _ (fun w hSw => (Bk.range (pre := []) (post := []) (by simpa using hSw.1) rfl)) Try.underlying154 rfl (HE16.out)) (by assumption) ?_
    try simp only [Act.put, List.setIfInBounds_toArray, List.set_cons_zero, List.set_cons_succ, List.getElem_toArray, List.getElem_cons_zero, List.getElem_cons_succ]
    refine wpAnyH_take (i := 5) (v := ?_) rfl (by kernel_rfl) (by kernel_rfl) (by kernel_rfl) (fun _ _ _ h => h) (Or.inl ⟨by rfl, ?_⟩) (by assumption) ?_
    rotate_left
    · intro w hSw
      have hcell := HLK.out _ hSw.2.2
      clear hSw
      go_simp
      try with_reducible rfl
    try simp only [Act.put, List.setIfInBounds_toArray, List.set_cons_zero, List.set_cons_succ, List.getElem_toArray, List.getElem_cons_zero, List.getElem_cons_succ]
    refine wpAnyH_take (i := 6) (v := ?_) rfl (by kernel_rfl) (by kernel_rfl) (by kernel_rfl) (fun _ _ _ h => h) (Or.inl ⟨by rfl, ?_⟩) (by assumption) ?_
    rotate_left
    · intro w hSw
      (try dsimp only at hSw)
      go_simp
      try with_reducible rfl
    try simp only [Act.put, List.setIfInBounds_toArray, List.set_cons_zero, List.set_cons_succ, List.getElem_toArray, List.getElem_cons_zero, List.getElem_cons_succ]
    refine wpAnyH_take (i := 7) (v := ?_) rfl (by kernel_rfl) (by kernel_rfl) (by kernel_rfl) (fun _ _ _ h => h) (Or.inl ⟨by rfl, ?_⟩) (by assumption) ?_
    rotate_left
    · intro w hSw
      (try dsimp only at hSw)
      go_simp
      try with_reducible rfl
    try simp only [Act.put, List.setIfInBounds_toArray, List.set_cons_zero, List.set_cons_succ, List.getElem_toArray, List.getElem_cons_zero, List.getElem_cons_succ]
    refine wpAnyH_take (i := 8) (v := ?_) rfl (by kernel_rfl) (by kernel_rfl) (by kernel_rfl) (fun _ _ _ h => h) (Or.inl ⟨by rfl, ?_⟩) (by assumption) ?_
    rotate_left
    · intro w hSw
      (try dsimp only at hSw)
      go_simp
      try with_reducible rfl
    try simp only [Act.put, List.setIfInBounds_toArray, List.set_cons_zero, List.set_cons_succ, List.getElem_toArray, List.getElem_cons_zero, List.getElem_cons_succ]
    refine wpAnyH_take (i := 9) (v := ?_) rfl (by kernel_rfl) (by kernel_rfl) (by kernel_rfl) (fun _ _ _ h => h) (Or.inl ⟨by rfl, ?_⟩) (by assumption) ?_
    rotate_left
    · intro w hSw
      (try dsimp only at hSw)
      go_simp
      try with_reducible rfl
    try simp only [Act.put, List.setIfInBounds_toArray, List.set_cons_zero, List.set_cons_succ, List.getElem_toArray, List.getElem_cons_zero, List.getElem_cons_succ]
    refine wpAnyH_take (i := 10) (v := ?_) rfl (by kernel_rfl) (by kernel_rfl) (by kernel_rfl) (fun _ _ _ h => h) (Or.inl ⟨by rfl, ?_⟩) (by assumption) ?_
    rotate_left
    · intro w hSw
      (try dsimp only at hSw)
      go_simp
      try with_reducible rfl
    try simp only [Act.put, List.setIfInBounds_toArray, List.set_cons_zero, List.set_cons_succ, List.getElem_toArray, List.getElem_cons_zero, List.getElem_cons_succ]
    refine wpAnyH_done (by kernel_rfl) ?_ _
    clear hHeld
    have hc0 := (bk2 HK1.out).1
    have hl1 : decide ((65536 : Int) ≤ n) = false := by simp; omega
    go_wp2_with fail
    refine wp_region_held_drew (S := fun w' => Bk w' w.heap.size 154 (entC e)) (by kernel_rfl) (Bk.drew (Bk.drew HX.out)) (fun hHeld => ?_)
    refine wpAnyH_take (i := 0) (v := ?_) rfl (by kernel_rfl) (by kernel_rfl) (by kernel_rfl) (fun _ _ _ h => h) (Or.inl ⟨by rfl, ?_⟩) (by assumption) ?_
    rotate_left
    · intro w hSw
      (try dsimp only at hSw)
      go_simp
      try with_reducible rfl
    try simp only [Act.put, List.setIfInBounds_toArray, List.set_cons_zero, List.set_cons_succ, List.getElem_toArray, List.getElem_cons_zero]
    refine wpAnyH_take (i := 1) (v := ?_) rfl (by kernel_rfl) (by kernel_rfl) (by kernel_rfl) (fun _ _ _ h => h) (Or.inl ⟨by rfl, ?_⟩) (by assumption) ?_
    rotate_left
    · intro w hSw
      (try dsimp only at hSw)
      go_simp
      try with_reducible rfl
    try simp only [Act.put, List.setIfInBounds_toArray, List.set_cons_zero, List.set_cons_succ, List.getElem_toArray, List.getElem_cons_zero, List.getElem_cons_succ]
    refine wpAnyH_take (i := 2) (v := ?_) rfl (by kernel_rfl) (by kernel_rfl) (by kernel_rfl) (fun _ _ _ h => h) (Or.inl ⟨by rfl, ?_⟩) (by assumption) ?_
    rotate_left
    · intro w hSw
      (try dsimp only at hSw)
      go_simp
      try with_reducible rfl
    try simp only [Act.put, List.setIfInBounds_toArray, List.set_cons_zero, List.set_cons_succ, List.getElem_toArray, List.getElem_cons_zero, List.getElem_cons_succ]
    refine wpAnyH_take (i := 3) (v := ?_) rfl (by kernel_rfl) (by kernel_rfl) (by kernel_rfl) (fun _ _ _ h => h) (Or.inl ⟨by rfl, ?_⟩) (by assumption) ?_
    rotate_left
    · intro w hSw
      (try dsimp only at hSw)
      go_simp
      try with_reducible rfl
    try simp only [Act.put, List.setIfInBounds_toArray, List.set_cons_zero, List.set_cons_succ, List.getElem_toArray, List.getElem_cons_zero, List.getElem_cons_succ]
    refine wpAnyH_take (i := 5) (v := .agg (List.toArray (entC e))) rfl (by kernel_rfl) (by kernel_rfl) (by kernel_rfl) (fun _ _ _ h => h) (yieldsIf_load_mid (by rfl) _ _ rfl _ _ rfl (entC e) _ (fun w hSw => (Bk.range (pre := []) (post := []) (by simpa using hSw) rfl)) Try.underlying154 rfl (HE16.out)) (by assumption) ?_
    try simp only [Act.put, List.setIfInBounds_toArray, List.set_cons_zero, List.set_cons_succ, List.getElem_toArray, List.getElem_cons_zero, List.getElem_cons_succ]
    refine wpAnyH_ready (rs := [4, 6]) (by kernel_rfl) (by simp) ?_
    refine AllReadyH.cons rfl (fun K hK => ?_) (AllReadyH.cons rfl (fun K hK => ?_) AllReadyH.nil)
    · go_simp
      refine hK.out _ _ hHeld (fun hHeld => ?_)
      clear hK K
      try simp only [Act.put, List.setIfInBounds_toArray, List.set_cons_zero, List.set_cons_succ, List.getElem_toArray, List.getElem_cons_zero, List.getElem_cons_succ]
      refine wpAnyH_ready (rs := [6]) (by kernel_rfl) (by simp) ?_
      refine AllReadyH.cons rfl (fun K hK => ?_) AllReadyH.nil
      rw [if_pos (by rfl)]
      (refine wp_bslice _ 1 _ rfl #[(0, .agg (entC e).toArray)] (by simp [Act.eval]) _ _ (bs_ent HE.out _) ?_)
      refine hK.out _ _ ((hHeld.alloc _)) (fun hHeld => ?_)
      clear hK K
      try simp only [Act.put, List.setIfInBounds_toArray, List.set_cons_zero, List.set_cons_succ, List.getElem_toArray, List.getElem_cons_zero, List.getElem_cons_succ]
      obtain ⟨w2, hw2⟩ : ∃ w2, w1.drew.drew.alloc (.cells (entC e).toArray 154) = w2 := ⟨_, rfl⟩
      rw [hw2] at hHeld ⊢
      have hb2 : Below w1.heap.size w1 w2 := hw2 ▸ ((Below.refl w1.heap.size w1).drew.drew).alloc (Nat.le_refl _) _
      have hsn : Sl w2 w2.heap.size 16 (some ⟨w1.heap.size, 0, none⟩) 1 (entC e) := by
        have := sl_new w1.drew.drew (entC e).toArray 154 16 1 (by simpa using entC_len HE.out) (by omega)
        rw [hw2] at this; simpa using this
      have HSN := Lib.hid hsn
      have HO2 := Lib.hid (own_keep HK2.out hb2); have HX2 := Lib.hid (HX.out.later hb2); have HK12 := Lib.hid (HK1.out.later hb2)
      have HM2 : Hid (w2.ownsMap (H := Unit) Try.prog 154 (plainElem Try.prog 3) b n (bookD es)) := HK3.out.kept (row := none) ⟨hb2.os, hb2.tape, hb2.output, hb2.size, fun k hk _ => hb2.block k hk⟩ (by simp)
      have HL2 : Hid (lo ≤ w2.heap.size) := Nat.le_trans hlw (Nat.le_trans HB1.out.size hb2.size)
      have HB2 := Lib.hid ((HB1.out.mono hlw).trans (hb2.mono (Nat.le_trans hlw HB1.out.size)))
      have HKP2 := Lib.hid ((Keeps.of_below HB1.out).trans (Keeps.of_below hb2))
      clear hb2 hsn hw2
      refine wpAnyH_ready (rs := [7]) (by kernel_rfl) (by simp) ?_
      refine AllReadyH.cons rfl (fun K hK => ?_) AllReadyH.nil
      rw [if_pos (by rfl)]
      refine wp_app _ (.tmp 30) (.tmp 32) 147 rfl lo 154 i0 z0 16 16 Try.underlying147 hi0 hz0 his hib hz1 (by decide) (.slice A n c) n (es.flatMap entC) rfl HO2.out _ _ 1 1 (entC e) rfl HSN.out (entC_one e) (by unfold maxLen; omega) (by omega) HL2.out ?_
      intro v3 w3 hown hg hat
      obtain ⟨A3, c3, rfl⟩ := own_form hown
      have HO3 := Lib.hid hown
      have HX3 := Lib.hid (HX2.out.grown hg (fun h => by have := HRB.out _ h.symm; omega))
      have HK3' := Lib.hid (HK12.out.grown hg (Ne.symm (own_bk_ne HO2.out HK12.out (by decide))))
      have HM3 := Lib.hid (HM2.out.kept hg (map_apart HM2.out HO2.out))
      have HB3 := Lib.hid (grown_below HB2.out HO2.out hg (Nat.le_refl _) HL2.out)
      have HKP3 := Lib.hid (HKP2.out.trans (keeps_own HO2.out hg))
      clear hown hg hat
      refine hK.out _ _ HX3.out (fun hHeld => ?_)
      clear hK K
      try simp only [Act.put, List.setIfInBounds_toArray, List.set_cons_zero, List.set_cons_succ, List.getElem_toArray, List.getElem_cons_zero, List.getElem_cons_succ]
      refine wpAnyH_take (i := 8) (v := ?_) rfl (by kernel_rfl) (by kernel_rfl) (by kernel_rfl) (fun _ _ _ h => h) (Or.inl ⟨by rfl, ?_⟩) (by assumption) ?_
      rotate_left
      · intro w hSw
        (try dsimp only at hSw)
        go_simp
        try with_reducible rfl
      try simp only [Act.put, List.setIfInBounds_toArray, List.set_cons_zero, List.set_cons_succ, List.getElem_toArray, List.getElem_cons_zero, List.getElem_cons_succ]
      refine wpAnyH_take (i := 9) (v := ?_) rfl (by kernel_rfl) (by kernel_rfl) (by kernel_rfl) (fun _ _ _ h => h) (Or.inl ⟨by rfl, ?_⟩) (by assumption) ?_
      rotate_left
      · intro w hSw
        (try dsimp only at hSw)
        go_simp
        try with_reducible rfl
      try simp only [Act.put, List.setIfInBounds_toArray, List.set_cons_zero, List.set_cons_succ, List.getElem_toArray, List.getElem_cons_zero, List.getElem_cons_succ]
      refine wpAnyH_ready (rs := [10]) (by kernel_rfl) (by simp) ?_
      refine AllReadyH.cons rfl (fun K hK => ?_) AllReadyH.nil
      rw [if_pos (by rfl)]
      refine wp_store_part _ _ _ rfl g 0 _ ([.slice A3 (n + 1) c3]) rfl rfl rfl _ ([]) ([.slice A n c]) ([.map (some b)]) HK3'.out rfl rfl (by kernel_rfl) (by simp [Value.oneCell']) ?_
      intro w4 hp4
      refine hK.out _ _ (hHeld.grown hp4.only (by intro h; injection h with h; omega)) (fun hHeld => ?_)
      clear hK K
      try simp only [Act.put, List.getElem_toArray, List.getElem_cons_zero, List.getElem_cons_succ]
      refine wpAnyH_done (by kernel_rfl) ?_ _
      clear hHeld
      have HX4 := Lib.hid (HX3.out.grown hp4.only (by intro h; injection h with h; omega))
      have HK4 : Hid (Bk w4 g 149 [.slice A3 (n + 1) c3, .map (some b)]) := hp4.bk
      have HO4 := Lib.hid (own_only HO3.out hp4.only (own_bk_ne HO3.out HK3'.out (by decide)))
      have HM4 := Lib.hid (HM3.out.kept hp4.only (by intro h; injection h with h; exact map_ne HM3.out HK3'.out h))
      have HB4 := Lib.hid (HB3.out.grown hp4.only (Nat.le_trans hlw HKP3.out.size) (fun q hq => by injection hq with hq; omega))
      have HKP4 := Lib.hid (HKP3.out.trans (Keeps.of_grown hp4.only HK3'.out (.inl rfl)))
      clear hp4
      go_wp2_with fail
      refine wp_region_held_drew (S := fun w' => Bk w' w.heap.size 154 (entC e) ∧ Bk w' g 149 [.slice A3 (n + 1) c3, .map (some b)]) (by kernel_rfl) ⟨Bk.drew HX4.out, Bk.drew HK4.out⟩ (fun hHeld => ?_)
      refine wpAnyH_take (i := 0) (v := ?_) rfl (by kernel_rfl) (by kernel_rfl) (by kernel_rfl) (fun _ _ _ h => h) (Or.inl ⟨by rfl, ?_⟩) (by assumption) ?_
      rotate_left
      · intro w hSw
        (try dsimp only at hSw)
        go_simp
        try with_reducible rfl
      try simp only [Act.put, List.setIfInBounds_toArray, List.set_cons_zero, List.set_cons_succ, List.getElem_toArray, List.getElem_cons_zero]
      refine wpAnyH_take (i := 1) (v := ?_) rfl (by kernel_rfl) (by kernel_rfl) (by kernel_rfl) (fun _ _ _ h => h) (Or.inl ⟨by rfl, ?_⟩) (by assumption) ?_
      rotate_left
      · intro w hSw
        (try dsimp only at hSw)
        go_simp
        try with_reducible rfl
      try simp only [Act.put, List.setIfInBounds_toArray, List.set_cons_zero, List.set_cons_succ, List.getElem_toArray, List.getElem_cons_zero, List.getElem_cons_succ]
      refine wpAnyH_take (i := 2) (v := ?_) rfl (by kernel_rfl) (by kernel_rfl) (by kernel_rfl) (fun _ _ _ h => h) (Or.inl ⟨by rfl, ?_⟩) (by assumption) ?_
      rotate_left
      · intro w hSw
        (try dsimp only at hSw)
        go_simp
        try with_reducible rfl
      try simp only [Act.put, List.setIfInBounds_toArray, List.set_cons_zero, List.set_cons_succ, List.getElem_toArray, List.getElem_cons_zero, List.getElem_cons_succ]
      refine wpAnyH_take (i := 3) (v := ?_) rfl (by kernel_rfl) (by kernel_rfl) (by kernel_rfl) (fun _ _ _ h => h) (Or.inl ⟨by rfl, ?_⟩) (by assumption) ?_
      rotate_left
      · intro w hSw
        have hcell := (bk2 hSw.2).2
        clear hSw
        go_simp
        try with_reducible rfl
      try simp only [Act.put, List.setIfInBounds_toArray, List.set_cons_zero, List.set_cons_succ, List.getElem_toArray, List.getElem_cons_zero, List.getElem_cons_succ]
      refine wpAnyH_take (i := 4) (v := .agg (List.toArray (entC e))) rfl (by kernel_rfl) (by kernel_rfl) (by kernel_rfl) (fun _ _ _ h => h) (yieldsIf_load_mid (by rfl) _ _ rfl _ _ rfl (entC e) _ (fun w hSw => (Bk.range (pre := []) (post := []) (by simpa using hSw.1) rfl)) Try.underlying154 rfl (HE16.out)) (by assumption) ?_
      try simp only [Act.put, List.setIfInBounds_toArray, List.set_cons_zero, List.set_cons_succ, List.getElem_toArray, List.getElem_cons_zero, List.getElem_cons_succ]
      refine wpAnyH_take (i := 5) (v := ?_) rfl (by kernel_rfl) (by kernel_rfl) (by kernel_rfl) (fun _ _ _ h => h) (Or.inl ⟨by rfl, ?_⟩) (by assumption) ?_
      rotate_left
      · intro w hSw
        (try dsimp only at hSw)
        go_simp
        try with_reducible rfl
      try simp only [Act.put, List.setIfInBounds_toArray, List.set_cons_zero, List.set_cons_succ, List.getElem_toArray, List.getElem_cons_zero, List.getElem_cons_succ]
      have hst := book_store (w := w4.drew) (b := b) (es := es) (e := e) (by rw [HN.out]; exact HM4.out.drew) HE.out (by rw [HN.out]; omega)
      rw [HN.out] at hst
      obtain ⟨w5, hrun, hm5, hg5⟩ := hst
      refine wpAnyH_ready (rs := [6]) (by kernel_rfl) (by simp) ?_
      refine AllReadyH.cons rfl (fun K hK => ?_) AllReadyH.nil
      rw [if_pos (by rfl)]
      (refine wp_mapU _ _ _ _ rfl _ _ _ rfl rfl rfl w5 hrun ?_)
      refine hK.out _ _ (⟨(Bk.drew HX4.out).grown hg5 (by intro h; injection h with h; exact map_ne HM4.out HX4.out h.symm), (Bk.drew HK4.out).grown hg5 (by intro h; injection h with h; exact map_ne HM4.out HK4.out h.symm)⟩) (fun hHeld => ?_)
      clear hK K
      try simp only [Act.put, List.getElem_toArray, List.getElem_cons_zero, List.getElem_cons_succ]
      refine wpAnyH_done (by kernel_rfl) ?_ _
      have HO5 : Hid (w5.ownsRow lo 154 16 (.slice A3 (n + 1) c3) (n + 1) (es.flatMap entC ++ entC e)) := World.ownsRow.kept (w := w4.drew) HO4.out hg5 (.inr (Ne.symm (map_apart HM4.out HO4.out)))
      have HK5 := Lib.hid hHeld.2
      have HM5 := Lib.hid hm5
      have HB5 := Lib.hid ((HB4.out.drew).grown hg5 (Nat.le_trans hlw (Nat.le_trans HKP4.out.size (Nat.le_refl _))) (fun q hq => by injection hq with hq; omega))
      have HKP5 := Lib.hid (HKP4.out.trans (Keeps.trans (Keeps.of_below (below_draws w4 _ 1)) (keeps_map HM4.out.drew hg5)))
      clear hHeld hrun hm5 hg5
      go_wp2_with fail
      go_ret2
      have hs := sig_own (w := w5) (i := n) (by omega)
      have hlw5 : lo ≤ w5.heap.size := Nat.le_trans hlw HKP5.out.size
      refine ⟨⟨_, _, rfl, ?_⟩, ?_, HB5.out.trans (hs.2.mono hlw5), HKP5.out.trans (Keeps.of_below hs.2)⟩
      · rw [HI.out]; exact own_base hs.1 HKP5.out.size
      · rw [HES.out]
        refine BookAt.later ⟨.slice A3 (n + 1) c3, b, HK5.out, ?_, HM5.out, hlg, hlb, ?_⟩ hs.2
        · rw [List.length_append, HN.out, List.flatMap_append]; simpa using HO5.out
        · have := bookS_ok HOK.out HE.out; rwa [HES.out] at this
    · rw [if_pos (by rfl)]
      refine wp_bslice _ 1 _ rfl #[(0, .agg (entC e).toArray)] (by simp [Act.eval]) _ _ (bs_ent HE.out _) ?_
      refine hK.out _ _ (hHeld.alloc _) (fun hHeld => ?_)
      clear hK K
      try simp only [Act.put, List.setIfInBounds_toArray, List.set_cons_zero, List.set_cons_succ, List.getElem_toArray, List.getElem_cons_zero, List.getElem_cons_succ]
      obtain ⟨w2, hw2⟩ : ∃ w2, w1.drew.drew.alloc (.cells (entC e).toArray 154) = w2 := ⟨_, rfl⟩
      rw [hw2] at hHeld ⊢
      have hcl : w2.cell? ⟨g, 0, none⟩ = some (.slice A n c) := by
        have hb2 : Below w1.heap.size w1 w2 := hw2 ▸ ((Below.refl w1.heap.size w1).drew.drew).alloc (Nat.le_refl _) _
        exact (bk2 (HK1.out.later hb2)).1
      refine wpAnyH_ready (rs := [4]) (by kernel_rfl) (by simp) ?_
      refine AllReadyH.cons rfl (fun K hK => ?_) AllReadyH.nil
      go_simp
      refine hK.out _ _ hHeld (fun hHeld => ?_)
      clear hK K hcl
      try simp only [Act.put, List.setIfInBounds_toArray, List.set_cons_zero, List.set_cons_succ, List.getElem_toArray, List.getElem_cons_zero, List.getElem_cons_succ]
      have hb2 : Below w1.heap.size w1 w2 := hw2 ▸ ((Below.refl w1.heap.size w1).drew.drew).alloc (Nat.le_refl _) _
      have hsn : Sl w2 w2.heap.size 16 (some ⟨w1.heap.size, 0, none⟩) 1 (entC e) := by
        have := sl_new w1.drew.drew (entC e).toArray 154 16 1 (by simpa using entC_len HE.out) (by omega)
        rw [hw2] at this; simpa using this
      have HSN := Lib.hid hsn
      have HO2 := Lib.hid (own_keep HK2.out hb2); have HX2 := Lib.hid (HX.out.later hb2); have HK12 := Lib.hid (HK1.out.later hb2)
      have HM2 : Hid (w2.ownsMap (H := Unit) Try.prog 154 (plainElem Try.prog 3) b n (bookD es)) := HK3.out.kept (row := none) ⟨hb2.os, hb2.tape, hb2.output, hb2.size, fun k hk _ => hb2.block k hk⟩ (by simp)
      have HL2 : Hid (lo ≤ w2.heap.size) := Nat.le_trans hlw (Nat.le_trans HB1.out.size hb2.size)
      have HB2 := Lib.hid ((HB1.out.mono hlw).trans (hb2.mono (Nat.le_trans hlw HB1.out.size)))
      have HKP2 := Lib.hid ((Keeps.of_below HB1.out).trans (Keeps.of_below hb2))
      clear hb2 hsn hw2
      refine wpAnyH_ready (rs := [7]) (by kernel_rfl) (by simp) ?_
      refine AllReadyH.cons rfl (fun K hK => ?_) AllReadyH.nil
      rw [if_pos (by rfl)]
      refine wp_app _ (.tmp 30) (.tmp 32) 147 rfl lo 154 i0 z0 16 16 Try.underlying147 hi0 hz0 his hib hz1 (by decide) (.slice A n c) n (es.flatMap entC) rfl HO2.out _ _ 1 1 (entC e) rfl HSN.out (entC_one e) (by unfold maxLen; omega) (by omega) HL2.out ?_
      intro v3 w3 hown hg hat
      obtain ⟨A3, c3, rfl⟩ := own_form hown
      have HO3 := Lib.hid hown
      have HX3 := Lib.hid (HX2.out.grown hg (fun h => by have := HRB.out _ h.symm; omega))
      have HK3' := Lib.hid (HK12.out.grown hg (Ne.symm (own_bk_ne HO2.out HK12.out (by decide))))
      have HM3 := Lib.hid (HM2.out.kept hg (map_apart HM2.out HO2.out))
      have HB3 := Lib.hid (grown_below HB2.out HO2.out hg (Nat.le_refl _) HL2.out)
      have HKP3 := Lib.hid (HKP2.out.trans (keeps_own HO2.out hg))
      clear hown hg hat
      refine hK.out _ _ HX3.out (fun hHeld => ?_)
      clear hK K
      try simp only [Act.put, List.setIfInBounds_toArray, List.set_cons_zero, List.set_cons_succ, List.getElem_toArray, List.getElem_cons_zero, List.getElem_cons_succ]
      refine wpAnyH_take (i := 8) (v := ?_) rfl (by kernel_rfl) (by kernel_rfl) (by kernel_rfl) (fun _ _ _ h => h) (Or.inl ⟨by rfl, ?_⟩) (by assumption) ?_
      rotate_left
      · intro w hSw
        (try dsimp only at hSw)
        go_simp
        try with_reducible rfl
      try simp only [Act.put, List.setIfInBounds_toArray, List.set_cons_zero, List.set_cons_succ, List.getElem_toArray, List.getElem_cons_zero, List.getElem_cons_succ]
      refine wpAnyH_take (i := 9) (v := ?_) rfl (by kernel_rfl) (by kernel_rfl) (by kernel_rfl) (fun _ _ _ h => h) (Or.inl ⟨by rfl, ?_⟩) (by assumption) ?_
      rotate_left
      · intro w hSw
        (try dsimp only at hSw)
        go_simp
        try with_reducible rfl
      try simp only [Act.put, List.setIfInBounds_toArray, List.set_cons_zero, List.set_cons_succ, List.getElem_toArray, List.getElem_cons_zero, List.getElem_cons_succ]
      refine wpAnyH_ready (rs := [10]) (by kernel_rfl) (by simp) ?_
      refine AllReadyH.cons rfl (fun K hK => ?_) AllReadyH.nil
      rw [if_pos (by rfl)]
      refine wp_store_part _ _ _ rfl g 0 _ ([.slice A3 (n + 1) c3]) rfl rfl rfl _ ([]) ([.slice A n c]) ([.map (some b)]) HK3'.out rfl rfl (by kernel_rfl) (by simp [Value.oneCell']) ?_
      intro w4 hp4
      refine hK.out _ _ (hHeld.grown hp4.only (by intro h; injection h with h; omega)) (fun hHeld => ?_)
      clear hK K
      try simp only [Act.put, List.getElem_toArray, List.getElem_cons_zero, List.getElem_cons_succ]
      refine wpAnyH_done (by kernel_rfl) ?_ _
      clear hHeld
      have HX4 := Lib.hid (HX3.out.grown hp4.only (by intro h; injection h with h; omega))
      have HK4 : Hid (Bk w4 g 149 [.slice A3 (n + 1) c3, .map (some b)]) := hp4.bk
      have HO4 := Lib.hid (own_only HO3.out hp4.only (own_bk_ne HO3.out HK3'.out (by decide)))
      have HM4 := Lib.hid (HM3.out.kept hp4.only (by intro h; injection h with h; exact map_ne HM3.out HK3'.out h))
      have HB4 := Lib.hid (HB3.out.grown hp4.only (Nat.le_trans hlw HKP3.out.size) (fun q hq => by injection hq with hq; omega))
      have HKP4 := Lib.hid (HKP3.out.trans (Keeps.of_grown hp4.only HK3'.out (.inl rfl)))
      clear hp4
      go_wp2_with fail
      refine wp_region_held_drew (S := fun w' => Bk w' w.heap.size 154 (entC e) ∧ Bk w' g 149 [.slice A3 (n + 1) c3, .map (some b)]) (by kernel_rfl) ⟨Bk.drew HX4.out, Bk.drew HK4.out⟩ (fun hHeld => ?_)
      refine wpAnyH_take (i := 0) (v := ?_) rfl (by kernel_rfl) (by kernel_rfl) (by kernel_rfl) (fun _ _ _ h => h) (Or.inl ⟨by rfl, ?_⟩) (by assumption) ?_
      rotate_left
      · intro w hSw
        (try dsimp only at hSw)
        go_simp
        try with_reducible rfl
      try simp only [Act.put, List.setIfInBounds_toArray, List.set_cons_zero, List.set_cons_succ, List.getElem_toArray, List.getElem_cons_zero]
      refine wpAnyH_take (i := 1) (v := ?_) rfl (by kernel_rfl) (by kernel_rfl) (by kernel_rfl) (fun _ _ _ h => h) (Or.inl ⟨by rfl, ?_⟩) (by assumption) ?_
      rotate_left
      · intro w hSw
        (try dsimp only at hSw)
        go_simp
        try with_reducible rfl
      try simp only [Act.put, List.setIfInBounds_toArray, List.set_cons_zero, List.set_cons_succ, List.getElem_toArray, List.getElem_cons_zero, List.getElem_cons_succ]
      refine wpAnyH_take (i := 2) (v := ?_) rfl (by kernel_rfl) (by kernel_rfl) (by kernel_rfl) (fun _ _ _ h => h) (Or.inl ⟨by rfl, ?_⟩) (by assumption) ?_
      rotate_left
      · intro w hSw
        (try dsimp only at hSw)
        go_simp
        try with_reducible rfl
      try simp only [Act.put, List.setIfInBounds_toArray, List.set_cons_zero, List.set_cons_succ, List.getElem_toArray, List.getElem_cons_zero, List.getElem_cons_succ]
      refine wpAnyH_take (i := 3) (v := ?_) rfl (by kernel_rfl) (by kernel_rfl) (by kernel_rfl) (fun _ _ _ h => h) (Or.inl ⟨by rfl, ?_⟩) (by assumption) ?_
      rotate_left
      · intro w hSw
        have hcell := (bk2 hSw.2).2
        clear hSw
        go_simp
        try with_reducible rfl
      try simp only [Act.put, List.setIfInBounds_toArray, List.set_cons_zero, List.set_cons_succ, List.getElem_toArray, List.getElem_cons_zero, List.getElem_cons_succ]
      refine wpAnyH_take (i := 4) (v := .agg (List.toArray (entC e))) rfl (by kernel_rfl) (by kernel_rfl) (by kernel_rfl) (fun _ _ _ h => h) (yieldsIf_load_mid (by rfl) _ _ rfl _ _ rfl (entC e) _ (fun w hSw => (Bk.range (pre := []) (post := []) (by simpa using hSw.1) rfl)) Try.underlying154 rfl (HE16.out)) (by assumption) ?_
      try simp only [Act.put, List.setIfInBounds_toArray, List.set_cons_zero, List.set_cons_succ, List.getElem_toArray, List.getElem_cons_zero, List.getElem_cons_succ]
      refine wpAnyH_take (i := 5) (v := ?_) rfl (by kernel_rfl) (by kernel_rfl) (by kernel_rfl) (fun _ _ _ h => h) (Or.inl ⟨by rfl, ?_⟩) (by assumption) ?_
      rotate_left
      · intro w hSw
        (try dsimp only at hSw)
        go_simp
        try with_reducible rfl
      try simp only [Act.put, List.setIfInBounds_toArray, List.set_cons_zero, List.set_cons_succ, List.getElem_toArray, List.getElem_cons_zero, List.getElem_cons_succ]
      have hst := book_store (w := w4.drew) (b := b) (es := es) (e := e) (by rw [HN.out]; exact HM4.out.drew) HE.out (by rw [HN.out]; omega)
      rw [HN.out] at hst
      obtain ⟨w5, hrun, hm5, hg5⟩ := hst
      refine wpAnyH_ready (rs := [6]) (by kernel_rfl) (by simp) ?_
      refine AllReadyH.cons rfl (fun K hK => ?_) AllReadyH.nil
      rw [if_pos (by rfl)]
      (refine wp_mapU _ _ _ _ rfl _ _ _ rfl rfl rfl w5 hrun ?_)
      refine hK.out _ _ (⟨(Bk.drew HX4.out).grown hg5 (by intro h; injection h with h; exact map_ne HM4.out HX4.out h.symm), (Bk.drew HK4.out).grown hg5 (by intro h; injection h with h; exact map_ne HM4.out HK4.out h.symm)⟩) (fun hHeld => ?_)
      clear hK K
      try simp only [Act.put, List.getElem_toArray, List.getElem_cons_zero, List.getElem_cons_succ]
      refine wpAnyH_done (by kernel_rfl) ?_ _
      have HO5 : Hid (w5.ownsRow lo 154 16 (.slice A3 (n + 1) c3) (n + 1) (es.flatMap entC ++ entC e)) := World.ownsRow.kept (w := w4.drew) HO4.out hg5 (.inr (Ne.symm (map_apart HM4.out HO4.out)))
      have HK5 := Lib.hid hHeld.2
      have HM5 := Lib.hid hm5
      have HB5 := Lib.hid ((HB4.out.drew).grown hg5 (Nat.le_trans hlw (Nat.le_trans HKP4.out.size (Nat.le_refl _))) (fun q hq => by injection hq with hq; omega))
      have HKP5 := Lib.hid (HKP4.out.trans (Keeps.trans (Keeps.of_below (below_draws w4 _ 1)) (keeps_map HM4.out.drew hg5)))
      clear hHeld hrun hm5 hg5
      go_wp2_with fail
      go_ret2
      have hs := sig_own (w := w5) (i := n) (by omega)
      have hlw5 : lo ≤ w5.heap.size := Nat.le_trans hlw HKP5.out.size
      refine ⟨⟨_, _, rfl, ?_⟩, ?_, HB5.out.trans (hs.2.mono hlw5), HKP5.out.trans (Keeps.of_below hs.2)⟩
      · rw [HI.out]; exact own_base hs.1 HKP5.out.size
      · rw [HES.out]
        refine BookAt.later ⟨.slice A3 (n + 1) c3, b, HK5.out, ?_, HM5.out, hlg, hlb, ?_⟩ hs.2
        · rw [List.length_append, HN.out, List.flatMap_append]; simpa using HO5.out
        · have := bookS_ok HOK.out HE.out; rwa [HES.out] at this
end Go.Proofs.Ythibihjblodfmaa
