/- fund.Fund: Clone, Same. -/
import Derived.Test.YtfapechlnllfaabF3
import Derived.Deep.WholeRow
import Derived.Deep.MidRow
namespace Go.Proofs.Ytfapechlnllfaab
open Go.RowKit

theorem fund_size : (Try.prog.info? 64).map (·.size) = some 18 := by kernel_rfl
theorem fundCells_len {l : List Int} {d : List Bool} {b : Int} (ok : FundOk l d b) : (fundCells l d b).length = 18 := by
  have h2 := fill8I_len ok.n8
  have h4 := fill8B_len (d := d) (by have := ok.n8; have := ok.dl; omega)
  simp [fundCells, h2, h4]
theorem fundCells_one {l : List Int} {d : List Bool} {b : Int} : (fundCells l d b).toArray.all (·.oneCell') = true := by
  refine all_oneCell_toArray fun v hv => ?_
  simp only [fundCells, List.mem_cons, List.mem_append, List.mem_map, List.mem_singleton, List.not_mem_nil, or_false] at hv
  rcases hv with rfl | ⟨_, _, rfl⟩ | ⟨_, _, rfl⟩ | rfl <;> rfl

theorem clone_any (w : World) (g : Nat) (l : List Int) (d : List Bool) (b : Int) (h : FundAt w g l d b) :
    Calls Try.prog 26 #[.pointer (some ⟨g, 0, none⟩)] w fun e w' => e = .returned (.pointer (some ⟨w.heap.size, 0, none⟩)) ∧ FundAt w' w.heap.size l d b ∧ Below w.heap.size w w' := by
  have hl := fundCells_len h.ok
  have ho := @fundCells_one l d b
  have hg := h.bk
  have OK := Lib.hid h.ok
  unfold Bk at hg
  obtain ⟨C, hC⟩ : ∃ C, C = (fundCells l d b).toArray := ⟨_, rfl⟩
  rw [← hC] at hg ho
  have hs : C.size = 18 := by rw [hC]; simpa using hl
  have hi : (Try.prog.info? 64).map (·.size) = some C.size := by rw [hs]; exact fund_size
  have HG := Lib.hid hg; have HO := Lib.hid ho; have HS := Lib.hid hs; have HI := Lib.hid hi; have HC := Lib.hid hC
  clear h hl ho hg hs hi hC
  go_enter Try.func26, Try.ntmps26
  go_wp2_with (first
    | (refine wpList_load_row rfl 64 _ rfl g rfl 64 C (0, 0) _ HG.out Try.underlying64 rfl HI.out ?_)
    | (refine wpList_store_row rfl 64 _ _ rfl w.heap.size C rfl rfl 64 _ (heap_alloc_last w _) HI.out (by rw [HS.out]; rfl) HO.out ?_; rw [World.setRow_alloc_new]))
  go_ret
  go_light
  refine ⟨rfl, ⟨?_, OK.out⟩, (Below.refl _ _).alloc (Nat.le_refl _) _⟩
  have := Bk.new w 64 C
  rw [HC.out] at this ⊢
  simpa using this
theorem fsame_nil_l (w : World) (g : Nat) :
    Calls Try.prog 14 #[.pointer none, .pointer (some ⟨g, 0, none⟩)] w fun e w' => e = .returned (.bool false) ∧ w = w' := by
  go_enter Try.func14, Try.ntmps14
  go_wp2_with fail
  go_ret
  exact ⟨rfl, rfl⟩
theorem fsame_nil_r (w : World) (g : Nat) :
    Calls Try.prog 14 #[.pointer (some ⟨g, 0, none⟩), .pointer none] w fun e w' => e = .returned (.bool false) ∧ w = w' := by
  go_enter Try.func14, Try.ntmps14
  go_wp2_with fail
  go_ret
  exact ⟨rfl, rfl⟩
theorem fsame_nil_both (w : World) :
    Calls Try.prog 14 #[.pointer none, .pointer none] w fun e w' => e = .returned (.bool true) ∧ w = w' := by
  go_enter Try.func14, Try.ntmps14
  go_wp2_with fail
  go_ret
  exact ⟨rfl, rfl⟩

/-! ### Two funds, compared whole -/
def fsameB (l : List Int) (d : List Bool) (b : Int) (l' : List Int) (d' : List Bool) (b' : Int) : Bool := decide (l = l' ∧ d = d' ∧ b = b')
theorem fill8I_inj {l l' : List Int} (hn : l.length = l'.length) : fill8I l = fill8I l' ↔ l = l' := by
  constructor
  · intro h
    have := congrArg (List.take l.length) h
    unfold fill8I at this
    rw [List.take_left', hn, List.take_left'] at this
    · exact this
    · rfl
    · rfl
  · rintro rfl; rfl
theorem fill8B_inj {l l' : List Bool} (hn : l.length = l'.length) : fill8B l = fill8B l' ↔ l = l' := by
  constructor
  · intro h
    have := congrArg (List.take l.length) h
    unfold fill8B at this
    rw [List.take_left', hn, List.take_left'] at this
    · exact this
    · rfl
    · rfl
  · rintro rfl; rfl

theorem size_of {P : Program} {t : TypeId} {n : Nat} (h : (P.info? t).map (·.size) = some n) (w : World) : (sizeOf t).run P w = .ok n w := by
  cases hq : P.info? t with
  | none => simp [hq] at h
  | some i =>
    simp [hq] at h
    simp [sizeOf, typeInfo, hq, h]

set_option maxHeartbeats 1000000 in
theorem fund_equal (l : List Int) (d : List Bool) (b : Int) (l' : List Int) (d' : List Bool) (b' : Int) (ok : FundOk l d b) (ok' : FundOk l' d' b') (w : World) :
    (Op.equalIn 10000 64 (.agg (fundCells l d b).toArray) (.agg (fundCells l' d' b').toArray)).run Try.prog w = .ok (fsameB l d b l' d' b') w := by
  obtain ⟨a0, a1, a2, a3, a4, a5, a6, a7, b0, b1, b2, b3, b4, b5, b6, b7, ha, hb, hc⟩ := fund_cells ok
  obtain ⟨a0', a1', a2', a3', a4', a5', a6', a7', b0', b1', b2', b3', b4', b5', b6', b7', ha', hb', hc'⟩ := fund_cells ok'
  obtain ⟨i0, hi, hz0, hz1, hz2⟩ := info_parts Try.infoInt
  obtain ⟨j0, hj, hy0, hy1, hy2⟩ := info_parts Try.infoBool
  have heqI := run_equalIn_ints (P := Try.prog) (k := .i64) 9997 61 3 8 Try.underlying61 Try.underlying3 hi hz1 (fill8I l) (fill8I l') (fill8I_len ok.n8) (fill8I_len ok'.n8)
  have heqB := run_equalIn_bools (P := Try.prog) 9997 62 4 8 Try.underlying62 Try.underlying4 hj hy1 (fill8B d) (fill8B d') (fill8B_len (by have := ok.n8; have := ok.dl; omega)) (fill8B_len (by have := ok'.n8; have := ok'.dl; omega))
  rw [run_equalIn_struct w 9999 64 _ _ (by rw [show Try.prog.fieldsOf 64 = _ from rfl]; exact Try.underlying64) (by kernel_rfl)]
  rw [ha, ha'] at heqI
  rw [hb, hb'] at heqB
  simp only [List.map_cons, List.map_nil] at heqI heqB
  have u3 : ∀ w, (isAgg 3).run Try.prog w = .ok false w := fun w => by simp [isAgg, run_underlying Try.underlying3]
  have u61 : ∀ w, (isAgg 61).run Try.prog w = .ok true w := fun w => by simp [isAgg, run_underlying Try.underlying61]
  have u62 : ∀ w, (isAgg 62).run Try.prog w = .ok true w := fun w => by simp [isAgg, run_underlying Try.underlying62]
  have z61 : ∀ w, (sizeOf 61).run Try.prog w = .ok 8 w := size_of (by kernel_rfl)
  have z62 : ∀ w, (sizeOf 62).run Try.prog w = .ok 8 w := size_of (by kernel_rfl)
  have e3 : ∀ (a c : Int) (w : World), (Op.equalIn 9999 3 (.int .i64 a) (.int .i64 c)).run Try.prog w = .ok (a == c) w := fun a c w => run_equalIn_int w 9998 3 .i64 .i64 a c Try.underlying3
  rw [hc, hc']
  simp only [Program.fieldsOf, Try.underlying64]
  simp only [Nat.reduceAdd] at heqI heqB
  simp [Op.eqFields, part, u3, u61, u62, z61, z62, e3, heqI, heqB]
  rw [← ha, ← ha', ← hb, ← hb']
  by_cases hn : l.length = l'.length
  · have hd : d.length = d'.length := by rw [ok.dl, ok'.dl, hn]
    simp only [hn, if_true, eqL, eqB, fill8I_inj hn, fill8B_inj hd, fsameB, decide_eq_false_iff_not]
    by_cases h1 : l = l' <;> by_cases h2 : d = d' <;> by_cases h3 : b = b' <;> simp [h1, h2, h3]
  · have hl : ¬ l = l' := fun e => hn (by rw [e])
    have hn' : ¬ ((l.length : Nat) : Int) = (l'.length : Nat) := by omega
    rw [if_neg (by omega)]
    simp [fsameB, hl]

theorem quiet_load {P : Program} {o : Oper} {a : Act} {C : World → Prop} {K : Act → Prop} (T : TypeId) (x : Operand) (ho : o.op = .load T x) (p : Value) (hx : a.eval x = p) (v : Value)
    (hl : ∀ w, C w → (Instr.loadAt T p).run P w = .ok v w) (hk : K (a.put o.dst v)) : o.quiet P a C K :=
  ⟨v, fun w hw => by
    unfold Oper.quietAt execOp
    simp only [ho, hx, Sem.run_bind, hl w hw, Result.andThen_ok, Sem.run_pure]
    exact ⟨rfl, rfl⟩, hk⟩

theorem fsame_any (w : World) (g g' : Nat) (l : List Int) (d : List Bool) (b : Int) (l' : List Int) (d' : List Bool) (b' : Int) (h : FundAt w g l d b) (h' : FundAt w g' l' d' b') :
    Calls Try.prog 14 #[.pointer (some ⟨g, 0, none⟩), .pointer (some ⟨g', 0, none⟩)] w fun e w' => e = .returned (.bool (fsameB l d b l' d' b')) ∧ ∃ q, w' = w.drewN q := by
  have heq := fund_equal l d b l' d' b' h.ok h'.ok
  have hld : ∀ q, (Instr.loadAt 64 (.pointer (some ⟨g, 0, none⟩))).run Try.prog (w.drewN q) = .ok (.agg (fundCells l d b).toArray) (w.drewN q) := fun q =>
    run_loadAt_mid _ g 0 _ _ _ (fun j v hv => by rw [Nat.zero_add, (h.bk.drewN q).cell]; exact hv) Try.underlying64 rfl (by rw [fundCells_len h.ok]; exact fund_size)
  have hld' : ∀ q, (Instr.loadAt 64 (.pointer (some ⟨g', 0, none⟩))).run Try.prog (w.drewN q) = .ok (.agg (fundCells l' d' b').toArray) (w.drewN q) := fun q =>
    run_loadAt_mid _ g' 0 _ _ _ (fun j v hv => by rw [Nat.zero_add, (h'.bk.drewN q).cell]; exact hv) Try.underlying64 rfl (by rw [fundCells_len h'.ok]; exact fund_size)
  have hlc : ∀ q, (loadCellsFrom ⟨g, 0, none⟩ 0 18 #[]).run Try.prog (w.drewN q) = .ok (fundCells l d b).toArray (w.drewN q) := fun q => by
    have := run_loadCells_list (P := Try.prog) (w.drewN q) ⟨g, 0, none⟩ (fundCells l d b) (fun j v hv => by rw [add_plain, Nat.zero_add, (h.bk.drewN q).cell]; exact hv)
    rw [fundCells_len h.ok] at this; simpa [loadCells] using this
  have hlc' : ∀ q, (loadCellsFrom ⟨g', 0, none⟩ 0 18 #[]).run Try.prog (w.drewN q) = .ok (fundCells l' d' b').toArray (w.drewN q) := fun q => by
    have := run_loadCells_list (P := Try.prog) (w.drewN q) ⟨g', 0, none⟩ (fundCells l' d' b') (fun j v hv => by rw [add_plain, Nat.zero_add, (h'.bk.drewN q).cell]; exact hv)
    rw [fundCells_len h'.ok] at this; simpa [loadCells] using this
  generalize (fundCells l d b).toArray = C at heq hld hlc
  generalize (fundCells l' d' b').toArray = C' at heq hld' hlc'
  clear h h'
  generalize fsameB l d b l' d' b' = bb at heq ⊢
  go_enter Try.func14, Try.ntmps14
  go_wp2_with fail
  refine wp_region_quiet_lit (by kernel_rfl) (by kernel_rfl) ?_
  go_big_quiet_want; go_big_quiet_op; go_big_quiet_on
  go_big_quiet_want; go_big_quiet_op; go_big_quiet_on
  go_big_quiet_want; refine quiet_load 64 _ rfl _ rfl _ (fun w' hw' => (by obtain ⟨q, rfl⟩ := hw'; exact hld q)) ?_; simp [Act.put]; go_big_quiet_on
  go_big_quiet_want; go_big_quiet_op; go_big_quiet_on
  go_big_quiet_want; go_big_quiet_op; go_big_quiet_on
  go_big_quiet_want; refine quiet_load 64 _ rfl _ rfl _ (fun w' hw' => (by obtain ⟨q, rfl⟩ := hw'; exact hld' q)) ?_; simp [Act.put]; go_big_quiet_on
  go_big_quiet_want; go_big_quiet_op; go_big_quiet_on
  go_big_quiet_want; go_big_quiet_op; go_big_quiet_on
  refine wpQuiet_nil ?_
  intro _ hw'
  obtain ⟨nq, hw''⟩ := hw'
  subst hw''
  go_wp2_with fail
  go_ret
  exact ⟨rfl, _, rfl⟩
end Go.Proofs.Ytfapechlnllfaab
