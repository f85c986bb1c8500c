/- Pots of locks: what stands. -/
import Derived.Test.YtbclfjdamklbpaaL8
namespace Go.Proofs.Ytbclfjdamklbpaa
set_option linter.unusedSimpArgs false
set_option linter.unusedVariables false
open Go.RowKit Go.Maps

theorem ownsLt {w : World} {base size n : Nat} {e : TypeId} {v : Value} {xs : List Value} (h : w.ownsRow base e size v n xs) : ∀ q, v.ownBlock = some q → q < w.heap.size := fun q hq => by
  rcases own_bk h with ⟨rfl, _⟩ | ⟨q', cap, ys, rfl, _, hb, _⟩
  · simp [Value.ownBlock] at hq
  · have : q' = q := by simpa [Value.ownBlock] using hq
    subst this; exact hb.lt
/-- A row stays while another one grows that lies elsewhere. -/
theorem own_else {w wn : World} {b1 s1 n1 : Nat} {e1 : TypeId} {v u : Value} {xs : List Value} (h : w.ownsRow b1 e1 s1 v n1 xs) (hg : w.grownBy wn u.ownBlock) (hne : ∀ q, u.ownBlock = some q → v.ownBlock ≠ some q) : wn.ownsRow b1 e1 s1 v n1 xs := by
  cases hq : u.ownBlock with
  | none => rw [hq] at hg; exact own_keep h ((Below.refl _ _).grown hg (Nat.le_refl _) (fun k hk => by cases hk))
  | some q => rw [hq] at hg; exact own_only h hg (hne q hq)
/-- Keys, what each one laid, and what each one is paid. -/
structure P3 (w wk : World) (g : Nat) (es : List Ent) (v6 v7 v8 : Value) (ks : List (List Int)) (own pays : List Int) : Prop where
  k : wk.ownsRow w.heap.size 23 8 v6 ks.length (cellsD ks)
  o : wk.ownsRow w.heap.size 3 1 v7 own.length (own.map (.int .i64))
  p : wk.ownsRow w.heap.size 3 1 v8 pays.length (pays.map (.int .i64))
  ne : ∀ q, v8.ownBlock = some q → v7.ownBlock ≠ some q
  bk : BookAt wk w.heap.size g es
  hb : Below w.heap.size w wk
  ko : DsOk ks
section
variable {w wk wn : World} {g : Nat} {es es' : List Ent} {v6 v7 v8 v' : Value} {ks : List (List Int)} {own pays : List Int}
theorem P3.later (h : P3 w wk g es v6 v7 v8 ks own pays) (hb : Below wk.heap.size wk wn) : P3 w wn g es v6 v7 v8 ks own pays :=
  ⟨own_keep h.k hb, own_keep h.o hb, own_keep h.p hb, h.ne, h.bk.later hb, below_then h.hb hb, h.ko⟩
theorem P3.sign (h : P3 w wk g es v6 v7 v8 ks own pays) (hk : Keeps wk wn) (hb : Below w.heap.size wk wn) (hbk : BookAt wn w.heap.size g es') : P3 w wn g es' v6 v7 v8 ks own pays :=
  ⟨own_keeps h.k hk (by decide) (by decide), own_keeps h.o hk (by decide) (by decide), own_keeps h.p hk (by decide) (by decide), h.ne, hbk, h.hb.trans hb, h.ko⟩
theorem P3.appK (h : P3 w wk g es v6 v7 v8 ks own pays) {d : List Int} (hd : DgOk d) (ho : wn.ownsRow w.heap.size 23 8 v' (ks.length + 1) (cellsD ks ++ dl d)) (hg : wk.grownBy wn v6.ownBlock) : P3 w wn g es v' v7 v8 (ks ++ [d]) own pays := by
  refine ⟨?_, own_apart h.o h.k (by decide) hg, own_apart h.p h.k (by decide) hg, h.ne, h.bk.own h.k hg (by decide) (by decide), grown_below h.hb h.k hg (Nat.le_refl _) h.hb.size, fun x hx => ?_⟩
  · have e : cellsD (ks ++ [d]) = cellsD ks ++ dl d := by simp [cellsD, dl]
    rw [e]; simpa using ho
  · rcases List.mem_append.1 hx with hx | hx
    · exact h.ko x hx
    · simp at hx; subst hx; exact hd
theorem P3.appO (h : P3 w wk g es v6 v7 v8 ks own pays) {z : Int} (ho : wn.ownsRow w.heap.size 3 1 v' (own.length + 1) (own.map (.int .i64) ++ [.int .i64 z])) (hg : wk.grownBy wn v7.ownBlock) (hat : v'.ownBlock = v7.ownBlock ∨ v'.ownBlock = some wk.heap.size) : P3 w wn g es v6 v' v8 ks (own ++ [z]) pays := by
  refine ⟨own_apart h.k h.o (by decide) hg, by simpa using ho, own_else h.p hg (fun q hq hv => h.ne q hv hq), fun q hq => ?_, h.bk.own h.o hg (by decide) (by decide), grown_below h.hb h.o hg (Nat.le_refl _) h.hb.size, h.ko⟩
  rcases hat with e | e
  · rw [e]; exact h.ne q hq
  · rw [e]
    intro e2; injection e2 with e2
    have := ownsLt h.p q hq
    omega
theorem P3.appP (h : P3 w wk g es v6 v7 v8 ks own pays) {z : Int} (ho : wn.ownsRow w.heap.size 3 1 v' (pays.length + 1) (pays.map (.int .i64) ++ [.int .i64 z])) (hg : wk.grownBy wn v8.ownBlock) (hat : v'.ownBlock = v8.ownBlock ∨ v'.ownBlock = some wk.heap.size) : P3 w wn g es v6 v7 v' ks own (pays ++ [z]) := by
  refine ⟨own_apart h.k h.p (by decide) hg, own_else h.o hg h.ne, by simpa using ho, fun q hq => ?_, h.bk.own h.p hg (by decide) (by decide), grown_below h.hb h.p hg (Nat.le_refl _) h.hb.size, h.ko⟩
  rcases hat with e | e
  · exact h.ne q (e ▸ hq)
  · rw [e] at hq
    injection hq with hq
    intro e2
    have := ownsLt h.o q e2
    omega
end
/-- A number below another one, out of any. -/
def modI (z n : Int) : Int := (z % 18446744073709551616) % n
theorem modI_lt (z : Int) {n : Int} (h : 0 < n) : 0 ≤ modI z n ∧ modI z n < n := ⟨Int.emod_nonneg _ (by omega), Int.emod_lt_of_pos _ h⟩
theorem modI_run (z n : Int) (h : 0 < n) (h1 : n ≤ 9223372036854775808) : IntKind.i64.wrap ((IntKind.u64.wrap z).tmod n) = modI z n := by
  have h2 : (IntKind.u64.wrap z).tmod n = modI z n := by
    simp only [IntKind.wrap_u64]
    rw [Int.tmod_eq_emod_of_nonneg (Int.emod_nonneg _ (by decide))]
    rfl
  rw [h2, IntWalk.i64_in]
  have := modI_lt z h
  omega
theorem sum_add (l : List Int) (z : Int) : (l ++ [z]).sum = l.sum + z := by simp
theorem sum_nn : ∀ {l : List Int}, (∀ z ∈ l, 0 ≤ z) → 0 ≤ l.sum ∧ ∀ z ∈ l, z ≤ l.sum
  | [], _ => ⟨by simp, fun z hz => by simp at hz⟩
  | x :: l, h => by
    obtain ⟨h1, h2⟩ := sum_nn (l := l) (fun z hz => h z (List.mem_cons_of_mem _ hz))
    have hx := h x List.mem_cons_self
    rw [List.sum_cons]
    refine ⟨by omega, fun z hz => ?_⟩
    rcases List.mem_cons.1 hz with rfl | hz
    · omega
    · have := h2 z hz; omega
theorem sum_le {l : List Int} {b : Int} (h : ∀ z ∈ l, z ≤ b) : l.sum ≤ b * l.length := by
  induction l with
  | nil => simp
  | cons x l ih =>
    rw [List.sum_cons, List.length_cons]
    have := ih (fun z hz => h z (List.mem_cons_of_mem _ hz))
    have := h x List.mem_cons_self
    push_cast
    rw [Int.mul_add]
    omega
def keyP (i : Nat) : List Int := [(i : Int), 7, 0, 0, 0, 0, 0, 0]
theorem keyP_ok {i : Nat} (h : i < 256) : DgOk (keyP i) := ⟨rfl, fun b hb => by simp [keyP] at hb; omega⟩
theorem build_kp (x : Int) (w : World) : (Instr.build 23 #[(0, .int .u8 x), (1, .int .u8 7)]).run Try.prog w = .ok (.agg (dl [x, 7, 0, 0, 0, 0, 0, 0]).toArray) w := by kernel_rfl
theorem bs_d1 {x : List Int} (hx : DgOk x) (w : World) : (Instr.buildSlice 24 1 #[(0, .agg (dl x).toArray)]).run Try.prog w = .ok (.slice (some ⟨w.heap.size, 0, none⟩) 1 1) (w.alloc (.cells (dl x).toArray 23)) := by
  obtain ⟨x0, x1, x2, x3, x4, x5, x6, x7, rfl⟩ := list8 x hx.len
  kernel_rfl
theorem bs_i1 (a : Int) (w : World) : (Instr.buildSlice 27 1 #[(0, .int .i64 a)]).run Try.prog w = .ok (.slice (some ⟨w.heap.size, 0, none⟩) 1 1) (w.alloc (.cells ([.int .i64 a] : List Value).toArray 3)) := by kernel_rfl
theorem Try.infoDg1 : (Try.prog.info? 23).map (fun i => (i.zero.map fun z => z.cells.size, i.size, i.bytes)) = some (some 8, 8, 8) := by kernel_rfl
theorem dg_parts : ∃ i z, Try.prog.info? 23 = some i ∧ i.zero = some z ∧ i.size = 8 ∧ i.bytes = 8 ∧ z.cells.size = 8 := by
  have := Try.infoDg1
  cases hq : Try.prog.info? 23 with
  | none => rw [hq] at this; cases this
  | some i =>
    rw [hq] at this
    simp only [Option.map_some, Option.some.injEq, Prod.mk.injEq] at this
    obtain ⟨h1, h2, h3⟩ := this
    cases hz : i.zero with
    | none => rw [hz] at h1; cases h1
    | some z =>
      rw [hz] at h1
      simp only [Option.map_some, Option.some.injEq] at h1
      exact ⟨i, z, rfl, hz, h2, h3, h1⟩
end Go.Proofs.Ytbclfjdamklbpaa
