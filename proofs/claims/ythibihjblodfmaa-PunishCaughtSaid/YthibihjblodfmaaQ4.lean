/- States and acts, compared. -/
import Derived.Test.YthibihjblodfmaaQ3
import Derived.Test.YthibihjblodfmaaOC
namespace Go.Proofs.Ythibihjblodfmaa
open Go.RowKit

section
variable {P : Program}
theorem wpList_load_midG {ops : Array Oper} {rest : List Oper} {op : Oper} {a : Act} {w : World} {Q : Exit → Act → World → Prop} (hw : Region.wanted op (yielded ops a.tmps) = true) (ty : TypeId) (x : Operand) (ho : op.op = .load ty x)
    (b o : Nat) (hx : a.eval x = .pointer (some ⟨b, o, none⟩)) (cs : List Value) (d : TypeDesc) (hc : w.rangeAt b o cs)
    (hu : P.underlying ty = some d) (hd : d.isRow = true) (hi : (P.info? ty).map (·.size) = some cs.length)
    (h : wpList P ops Q rest (a.put op.dst (.agg cs.toArray)) w) : wpList P ops Q (op :: rest) a w :=
  wpList_step fun _ hK => by rw [if_pos hw]; exact wp_load_mid ty x ho b o hx cs d hc hu hd hi (hK _ _ h)
end
theorem dg_eq_run (t t' : List Int) (ht : DgOk t) (ht' : DgOk t') (W : World) : (Op.equalIn 10000 29 (.agg (dl t).toArray) (.agg (dl t').toArray)).run Try.prog W = .ok (eqL t t') W := by
  obtain ⟨j, hj, hjs⟩ := Option.map_eq_some_iff.1 (show (Try.prog.info? 5).map (·.size) = some 1 by kernel_rfl)
  exact run_equalIn_ints 9998 29 5 8 Try.underlying29 Try.underlying5 hj hjs t t' ht.len ht'.len W
theorem rdg_eq_run (t t' : List Int) (ht : DgOk t) (ht' : DgOk t') (W : World) : (Op.equalIn 10000 22 (.agg (dl t).toArray) (.agg (dl t').toArray)).run Try.prog W = .ok (eqL t t') W := by
  obtain ⟨j, hj, hjs⟩ := Option.map_eq_some_iff.1 (show (Try.prog.info? 5).map (·.size) = some 1 by kernel_rfl)
  exact run_equalIn_ints 9998 22 5 8 Try.underlying22 Try.underlying5 hj hjs t t' ht.len ht'.len W
structure StaM (w : World) (g : Nat) (n : Int) (t : List Int) (p : Value) : Prop where
  r0 : w.rangeAt g 0 (dl t)
  c8 : w.cell? ⟨g, 8, none⟩ = some (.int .i64 n)
  c9 : w.cell? ⟨g, 9, none⟩ = some p
theorem sta_mem {w : World} {g : Nat} {n : Int} {t : List Int} {p : Value} (ht : DgOk t) (h : Bk w g 31 (staC n t p)) : StaM w g n t p := by
  have h1 : Bk w g 31 ([] ++ (dl t ++ [.int .i64 n, p])) := h
  have h2 : Bk w g 31 (dl t ++ .int .i64 n :: [p]) := h
  have h3 : Bk w g 31 ((dl t ++ [.int .i64 n]) ++ p :: []) := by have := h; simpa [staC] using this
  exact ⟨h1.range rfl, h2.at1 (by simp [dl_len, ht.len]), h3.at1 (by simp [dl_len, ht.len])⟩
structure ActM (w : World) (g : Nat) (m : Int) (u v : List Int) (q : Value) : Prop where
  r0 : w.rangeAt g 0 (dl u)
  c8 : w.cell? ⟨g, 8, none⟩ = some (.int .i64 m)
  r9 : w.rangeAt g 9 (dl v)
  c17 : w.cell? ⟨g, 17, none⟩ = some q
theorem act_mem {w : World} {g : Nat} {m : Int} {u v : List Int} {q : Value} (hu : DgOk u) (hv : DgOk v) (h : Bk w g 33 (actC m u v q)) : ActM w g m u v q := by
  have h1 : Bk w g 33 ([] ++ (dl u ++ .int .i64 m :: (dl v ++ [q]))) := h
  have h2 : Bk w g 33 (dl u ++ .int .i64 m :: (dl v ++ [q])) := h
  have h3 : Bk w g 33 ((dl u ++ [.int .i64 m]) ++ (dl v ++ [q])) := by have := h; simpa [actC] using this
  have h4 : Bk w g 33 ((dl u ++ (.int .i64 m :: dl v)) ++ q :: []) := by have := h; simpa [actC] using this
  exact ⟨h1.range rfl, h2.at1 (by simp [dl_len, hu.len]), h3.range (by simp [dl_len, hu.len]), h4.at1 (by simp [dl_len, hu.len, hv.len])⟩

set_option maxRecDepth 20000 in
set_option maxHeartbeats 2000000 in
theorem sameState_any (w : World) (n n' : Int) (t t' : List Int) (ht : DgOk t) (ht' : DgOk t') (A A' : Option Addr) (N N' C C' : Nat) (ps ps' : List Int) (hp : ByOk ps) (hp' : ByOk ps') (hs : Sl w w.heap.size 1 A N (ps.map (.int .u8))) (hs' : Sl w w.heap.size 1 A' N' (ps'.map (.int .u8))) :
    Calls Try.prog 79 #[.agg (staC n t (.slice A N C)).toArray, .agg (staC n' t' (.slice A' N' C')).toArray] w fun e w' => e = .returned (.bool (eqL t t' && (n == n') && eqL ps ps')) ∧ Below w.heap.size w w' := by
  obtain ⟨X, hX⟩ : ∃ X, (staC n t (.slice A N C)).toArray = X := ⟨_, rfl⟩
  obtain ⟨Y, hY⟩ : ∃ Y, (staC n' t' (.slice A' N' C')).toArray = Y := ⟨_, rfl⟩
  obtain ⟨w1, hw1⟩ : ∃ w1, (w.alloc (.cells X 31)).alloc (.cells Y 31) = w1 := ⟨_, rfl⟩
  have hb1 : Below w.heap.size w w1 := hw1 ▸ (below_new w _).alloc (by simp) _
  have kx : Bk w1 w.heap.size 31 (staC n t (.slice A N C)) := hw1 ▸ (Bk.new' w _ X (by rw [← hX])).alloc _
  have ky : Bk w1 (w.heap.size + 1) 31 (staC n' t' (.slice A' N' C')) := hw1 ▸ Bk.at_ _ _ Y (by simp) (by rw [← hY])
  have hm := sta_mem ht kx
  have hm' := sta_mem ht' ky
  have HW := Lib.hid hw1; have HB := Lib.hid hb1; have HM := Lib.hid hm; have HM' := Lib.hid hm'; have HP := Lib.hid hp; have HP' := Lib.hid hp'; have HS := Lib.hid (hs.below hb1); have HS' := Lib.hid (hs'.below hb1)
  have HT8 : Hid ((Try.prog.info? 29).map (·.size) = some (dl t).length) := by show _ = _; rw [dl_len, ht.len]; exact dg_size
  have HT8' : Hid ((Try.prog.info? 29).map (·.size) = some (dl t').length) := by show _ = _; rw [dl_len, ht'.len]; exact dg_size
  have heq := dg_eq_run t t' ht ht'
  have c8 := hm.c8; have c9 := hm.c9; have d8 := hm'.c8; have d9 := hm'.c9
  rw [hX, hY]
  obtain ⟨b1, hb⟩ : ∃ b1, eqL t t' = b1 := ⟨_, rfl⟩
  obtain ⟨b2, hb2⟩ : ∃ b2, (n == n') = b2 := ⟨_, rfl⟩
  obtain ⟨b3, hb3⟩ : ∃ b3, eqL ps ps' = b3 := ⟨_, rfl⟩
  rw [hb] at heq ⊢
  rw [hb2, hb3]
  have HB3 := Lib.hid hb3
  clear hX hY hw1 hb1 kx ky hm hm' hp hp' hs hs' ht ht' hb hb3
  cases b1
  · simp only [Bool.false_and]
    go_enter Try.func79, Try.ntmps79
    go_upto_region 1 with fail
    rw [HW.out]
    go_wp2_with (first
      | (with_reducible refine wpList_load_mid rfl 29 _ rfl w.heap.size 0 rfl (dl t) _ HM.out.r0 Try.underlying29 rfl HT8.out ?_)
      | (with_reducible refine wpList_load_mid rfl 29 _ rfl (w.heap.size + 1) 0 rfl (dl t') _ HM'.out.r0 Try.underlying29 rfl HT8'.out ?_))
    go_ret
    exact ⟨rfl, HB.out⟩
  · cases b2
    · simp only [Bool.true_and, Bool.false_and]
      go_enter Try.func79, Try.ntmps79
      go_upto_region 1 with fail
      rw [HW.out]
      go_wp2_with (first
        | (with_reducible refine wpList_load_mid rfl 29 _ rfl w.heap.size 0 rfl (dl t) _ HM.out.r0 Try.underlying29 rfl HT8.out ?_)
        | (with_reducible refine wpList_load_mid rfl 29 _ rfl (w.heap.size + 1) 0 rfl (dl t') _ HM'.out.r0 Try.underlying29 rfl HT8'.out ?_))
      go_ret
      exact ⟨rfl, HB.out⟩
    · simp only [Bool.true_and]
      go_enter Try.func79, Try.ntmps79
      go_upto_region 1 with fail
      rw [HW.out]
      go_wp2_with (first
        | (with_reducible refine wpList_load_mid rfl 29 _ rfl w.heap.size 0 rfl (dl t) _ HM.out.r0 Try.underlying29 rfl HT8.out ?_)
        | (with_reducible refine wpList_load_mid rfl 29 _ rfl (w.heap.size + 1) 0 rfl (dl t') _ HM'.out.r0 Try.underlying29 rfl HT8'.out ?_))
      refine (bytesEq_any _ _ _ A A' N N' C C' ps ps' HP.out HP'.out HS.out HS'.out).mono ?_
      rintro e w2 ⟨rfl, rfl⟩
      rw [HB3.out]
      go_wp2_with fail
      go_ret
      exact ⟨rfl, HB.out⟩
set_option maxRecDepth 20000 in
set_option maxHeartbeats 2000000 in
theorem sameAct_any (w : World) (n n' : Int) (t t' v v' : List Int) (ht : DgOk t) (ht' : DgOk t') (hv : DgOk v) (hv' : DgOk v') (A A' : Option Addr) (N N' C C' : Nat) (ps ps' : List Int) (hp : ByOk ps) (hp' : ByOk ps') (hs : Sl w w.heap.size 1 A N (ps.map (.int .u8))) (hs' : Sl w w.heap.size 1 A' N' (ps'.map (.int .u8))) :
    Calls Try.prog 80 #[.agg (actC n t v (.slice A N C)).toArray, .agg (actC n' t' v' (.slice A' N' C')).toArray] w fun e w' => e = .returned (.bool (eqL t t' && (n == n') && eqL v v' && eqL ps ps')) ∧ Below w.heap.size w w' := by
  obtain ⟨X, hX⟩ : ∃ X, (actC n t v (.slice A N C)).toArray = X := ⟨_, rfl⟩
  obtain ⟨Y, hY⟩ : ∃ Y, (actC n' t' v' (.slice A' N' C')).toArray = Y := ⟨_, rfl⟩
  obtain ⟨w1, hw1⟩ : ∃ w1, (w.alloc (.cells X 33)).alloc (.cells Y 33) = w1 := ⟨_, rfl⟩
  have hb1 : Below w.heap.size w w1 := hw1 ▸ (below_new w _).alloc (by simp) _
  have kx : Bk w1 w.heap.size 33 (actC n t v (.slice A N C)) := hw1 ▸ (Bk.new' w _ X (by rw [← hX])).alloc _
  have ky : Bk w1 (w.heap.size + 1) 33 (actC n' t' v' (.slice A' N' C')) := hw1 ▸ Bk.at_ _ _ Y (by simp) (by rw [← hY])
  have hm := act_mem ht hv kx
  have hm' := act_mem ht' hv' ky
  have HW := Lib.hid hw1; have HB := Lib.hid hb1; have HM := Lib.hid hm; have HM' := Lib.hid hm'; have HP := Lib.hid hp; have HP' := Lib.hid hp'; have HS := Lib.hid (hs.below hb1); have HS' := Lib.hid (hs'.below hb1)
  have HT8 : Hid ((Try.prog.info? 29).map (·.size) = some (dl t).length) := by show _ = _; rw [dl_len, ht.len]; exact dg_size
  have HT8' : Hid ((Try.prog.info? 29).map (·.size) = some (dl t').length) := by show _ = _; rw [dl_len, ht'.len]; exact dg_size
  have HV8 : Hid ((Try.prog.info? 29).map (·.size) = some (dl v).length) := by show _ = _; rw [dl_len, hv.len]; exact dg_size
  have HV8' : Hid ((Try.prog.info? 29).map (·.size) = some (dl v').length) := by show _ = _; rw [dl_len, hv'.len]; exact dg_size
  have heq := dg_eq_run t t' ht ht'
  have heq2 := dg_eq_run v v' hv hv'
  have c8 := hm.c8; have c17 := hm.c17; have d8 := hm'.c8; have d17 := hm'.c17
  rw [hX, hY]
  obtain ⟨b1, hb⟩ : ∃ b1, eqL t t' = b1 := ⟨_, rfl⟩
  obtain ⟨b2, hb2⟩ : ∃ b2, (n == n') = b2 := ⟨_, rfl⟩
  obtain ⟨b4, hb4⟩ : ∃ b4, eqL v v' = b4 := ⟨_, rfl⟩
  obtain ⟨b3, hb3⟩ : ∃ b3, eqL ps ps' = b3 := ⟨_, rfl⟩
  rw [hb] at heq ⊢
  rw [hb4] at heq2 ⊢
  rw [hb2, hb3]
  have HB3 := Lib.hid hb3
  clear hX hY hw1 hb1 kx ky hm hm' hp hp' hs hs' ht ht' hv hv' hb hb3 hb4
  cases b1
  · simp only [Bool.false_and]
    go_enter Try.func80, Try.ntmps80
    go_upto_region 1 with fail
    rw [HW.out]
    go_wp2_with (first
      | (with_reducible refine wpList_load_mid rfl 29 _ rfl w.heap.size 0 rfl (dl t) _ HM.out.r0 Try.underlying29 rfl HT8.out ?_)
      | (with_reducible refine wpList_load_mid rfl 29 _ rfl (w.heap.size + 1) 0 rfl (dl t') _ HM'.out.r0 Try.underlying29 rfl HT8'.out ?_))
    go_ret
    exact ⟨rfl, HB.out⟩
  · cases b2
    · simp only [Bool.true_and, Bool.false_and]
      go_enter Try.func80, Try.ntmps80
      go_upto_region 1 with fail
      rw [HW.out]
      go_wp2_with (first
        | (with_reducible refine wpList_load_mid rfl 29 _ rfl w.heap.size 0 rfl (dl t) _ HM.out.r0 Try.underlying29 rfl HT8.out ?_)
        | (with_reducible refine wpList_load_mid rfl 29 _ rfl (w.heap.size + 1) 0 rfl (dl t') _ HM'.out.r0 Try.underlying29 rfl HT8'.out ?_))
      go_ret
      exact ⟨rfl, HB.out⟩
    · simp only [Bool.true_and]
      cases b4
      all_goals
        go_enter Try.func80, Try.ntmps80
        go_upto_region 1 with fail
        rw [HW.out]
        go_wp2_with (first
          | (with_reducible refine wpList_load_mid rfl 29 _ rfl w.heap.size 0 rfl (dl t) _ HM.out.r0 Try.underlying29 rfl HT8.out ?_)
          | (with_reducible refine wpList_load_mid rfl 29 _ rfl (w.heap.size + 1) 0 rfl (dl t') _ HM'.out.r0 Try.underlying29 rfl HT8'.out ?_)
          | ((with_reducible refine wpList_load_midG ?_ 29 _ rfl w.heap.size 9 rfl (dl v) _ HM.out.r9 Try.underlying29 rfl HV8.out ?_); rfl)
          | ((with_reducible refine wpList_load_midG ?_ 29 _ rfl (w.heap.size + 1) 9 rfl (dl v') _ HM'.out.r9 Try.underlying29 rfl HV8'.out ?_); rfl))
      · go_ret
        exact ⟨rfl, HB.out⟩
      · refine (bytesEq_any _ _ _ A A' N N' C C' ps ps' HP.out HP'.out HS.out HS'.out).mono ?_
        rintro e w2 ⟨rfl, rfl⟩
        rw [HB3.out]
        go_wp2_with fail
        go_ret
        exact ⟨rfl, HB.out⟩
end Go.Proofs.Ythibihjblodfmaa
