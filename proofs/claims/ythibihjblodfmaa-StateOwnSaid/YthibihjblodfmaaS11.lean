/- Whoever signed, and whoever is gone: words for the walk of StateFull. -/
import Derived.Test.YthibihjblodfmaaS10
import Derived.Test.YthibihjblodfmaaS6
namespace Go.Proofs.Ythibihjblodfmaa
open Go.RowKit Go.Maps

theorem PcsOwn.keeps {w w' : World} {base : Nat} {ps : List Pc} (h : PcsOwn w base ps) (hk : Keeps w w') : PcsOwn w' base ps := fun p hp => own_keeps (h p hp) hk (by decide) (by decide)
theorem PcsOwn.nil_ (w : World) (base : Nat) : PcsOwn w base [] := fun p hp => by simp at hp
theorem PcsOwn.snoc {w : World} {base : Nat} {ps : List Pc} {p : Pc} (h : PcsOwn w base ps) (hp : w.ownsRow base 5 1 p.v p.n (p.bs.map (.int .u8))) : PcsOwn w base (ps ++ [p]) := fun q hq => by
  rcases List.mem_append.1 hq with hq | hq
  · exact h q hq
  · rw [List.mem_singleton] at hq; exact hq ▸ hp
theorem PcsOwn.grown {w w' : World} {base g : Nat} {t : TypeId} {xs : List Value} {ps : List Pc} (h : PcsOwn w base ps) (hb : Bk w g t xs) (hne : 5 ≠ t) (hg : w.grownBy w' (some g)) : PcsOwn w' base ps :=
  fun p hp => own_only (h p hp) hg (own_bk_ne (h p hp) hb hne)
/-- A cell of a row of the call's own is written: the world behind it is a letter. -/
theorem own_put {w : World} {base g n cap : Nat} {e : TypeId} {xs : List Value} (h : w.ownsRow base e 1 (.slice (some ⟨g, 0, none⟩) n cap) n xs) (i : Nat) (hi : i < n) (u : Value) :
    (∃ old, w.cell? ⟨g, i, none⟩ = some old) ∧ w.frozen? ⟨g, i, none⟩ = false ∧ (w.setCell ⟨g, i, none⟩ u).ownsRow base e 1 (.slice (some ⟨g, 0, none⟩) n cap) n (xs.set i u) ∧ w.grownBy (w.setCell ⟨g, i, none⟩ u) (some g) := by
  have hl := h.1
  rcases own_bk h with ⟨e1, _, _⟩ | ⟨g', cap', ys, e1, hb, hbk, hnc, hcm, hly, hty⟩
  · injection e1 with e1; cases e1
  · injection e1 with e1 e2 e3; injection e1 with e1; injection e1 with e1 _ _; subst e1; subst e3
    have hil : i < ys.length := by omega
    refine ⟨⟨ys[i], by rw [hbk.cell, List.getElem?_eq_getElem hil]⟩, hbk.frozen _, ?_, only_set (World.grownBy.refl w _) i u⟩
    have hb' := hbk.set_ i u
    refine hb'.own hb hnc hcm (by simp; omega) ?_
    rw [List.take_set, hty]
theorem own_block {w : World} {base n size : Nat} {e : TypeId} {v : Value} {xs : List Value} (h : w.ownsRow base e size v n xs) (hn : 0 < n) : ∃ g cap, v = .slice (some ⟨g, 0, none⟩) n cap ∧ base ≤ g ∧ g < w.heap.size := by
  rcases own_bk h with ⟨_, e1, _⟩ | ⟨g', cap', ys, e1, hb, hbk, _⟩
  · omega
  · exact ⟨g', cap', e1, hb, hbk.lt⟩
theorem Try.infoDg : (Try.prog.info? 29).map (fun i => (i.zero.map fun z => z.cells.size, i.size, i.bytes)) = some (some 8, 8, 8) := by kernel_rfl
theorem dg_parts : ∃ i z, Try.prog.info? 29 = some i ∧ i.zero = some z ∧ i.size = 8 ∧ i.bytes = 8 ∧ z.cells.size = 8 := by
  have := Try.infoDg
  cases hq : Try.prog.info? 29 with
  | none => rw [hq] at this; cases this
  | some i =>
    rw [hq] at this
    simp only [Option.map_some, Option.some.injEq, Prod.mk.injEq] at this
    obtain ⟨h1, h2, h3⟩ := this
    obtain ⟨z, hz, hz1⟩ := Option.map_eq_some_iff.1 h1
    exact ⟨i, z, rfl, hz, h2, h3, hz1⟩
theorem bs_dg1 {x : List Int} (hx : DgOk x) (w : World) : (Instr.buildSlice 89 1 #[(0, .agg (dl x).toArray)]).run Try.prog w = .ok (.slice (some ⟨w.heap.size, 0, none⟩) 1 1) (w.alloc (.cells (dl x).toArray 29)) := by
  obtain ⟨x0, x1, x2, x3, x4, x5, x6, x7, rfl⟩ := list8 x hx.len
  kernel_rfl
theorem build_kf (k : Nat) (w : World) : (Instr.build 29 #[(0, .int .u8 (k : Int)), (1, .int .u8 5)]).run Try.prog w = .ok (.agg (dl (keyF k)).toArray) w := by kernel_rfl
theorem cut_run {P : Program} {t e : TypeId} {i : TypeInfo} (ht : P.underlying t = some (.slice e)) (hi : P.info? e = some i) (A : Option Addr) (n c k : Nat) (z : Int) (hz : z = (k : Int)) (hk : k ≤ n) (w : World) :
    (Instr.slice t (.slice A n c) (some (.int .i64 z)) none none).run P w = .ok (.slice (if c = k then A else A.map (·.add (k * i.size))) (n - k) (c - k)) w := by
  subst hz
  have he : P.elem t = e := by simp [Program.elem, ht]
  rw [run_slice_l (P := P) (w := w) t A n c (by rw [he]; exact ht) .i64 k (by omega) (by omega)]
  simp [he, sizeOf, typeInfo, hi, sliced]
theorem Try.infoBool : (Try.prog.info? 4).map (fun i => (i.zero, i.size, i.bytes)) = some (some (.bool false), 1, 1) := by kernel_rfl
theorem run_headBl (A : Option Addr) (n c k : Nat) (hk : k ≤ c) (w : World) : (Instr.slice 77 (.slice A n c) none (some (.int .i64 (k : Int))) none).run Try.prog w = .ok (.slice A k c) w := by
  obtain ⟨i0, hi, _⟩ := info_parts Try.infoBool
  exact head_run Try.underlying77 hi A n c k hk w
theorem sl_at {w : World} {B n : Nat} {A : Option Addr} {xs : List Bool} (h : Sl w B 1 A n (xs.map .bool)) {k : Nat} (hk : k < n) : ∃ b o, A = some ⟨b, o, none⟩ ∧ w.cell? ⟨b, o + k, none⟩ = some (.bool (xs.getD k false)) := by
  obtain ⟨b, o, rfl, _, hc⟩ := h.spot (by omega) (by omega)
  refine ⟨b, o, rfl, hc k _ ?_⟩
  have hl := h.length
  rw [List.getElem?_map, List.getD_eq_getElem?_getD, List.getElem?_eq_getElem (by omega)]; rfl
theorem BookAt.lo_le {w : World} {lo g : Nat} {es : List Ent} (h : BookAt w lo g es) : lo ≤ w.heap.size := by obtain ⟨V, b, h1, _, _, h4, _⟩ := h; exact Nat.le_trans h4 (Nat.le_of_lt h1.lt)
theorem set_last {α : Type} {l : List α} {a b : α} {k : Nat} (h : l.length = k) : (l ++ [a]).set k b = l ++ [b] := by subst h; rw [List.set_append_right _ _ (Nat.le_refl _)]; simp
theorem bs_nil1 (w : World) : (Instr.buildSlice 90 1 #[(0, .slice none 0 0)]).run Try.prog w = .ok (.slice (some ⟨w.heap.size, 0, none⟩) 1 1) (w.alloc (.cells ([Value.slice none 0 0]).toArray 23)) := by kernel_rfl
theorem cellsD_snoc (ls : List (List Int)) (d : List Int) : cellsD (ls ++ [d]) = cellsD ls ++ dl d := by simp [cellsD, dl]
theorem own_far {w w' : World} {base size n g : Nat} {e t : TypeId} {v : Value} {xs ys : List Value} (h : w.ownsRow base e size v n xs) (hb : Bk w g t ys) (hg : g < base) (hk : w.grownBy w' v.ownBlock) : Bk w' g t ys :=
  hb.grown hk (fun e1 => by have := (h.lt g e1.symm).1; omega)
end Go.Proofs.Ythibihjblodfmaa
