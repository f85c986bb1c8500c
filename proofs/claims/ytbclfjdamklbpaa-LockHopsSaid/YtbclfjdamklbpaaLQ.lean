/- Hops: what stands. -/
import Derived.Test.YtbclfjdamklbpaaLP
import Derived.Test.YtbclfjdamklbpaaLI
namespace Go.Proofs.Ytbclfjdamklbpaa
set_option linter.unusedSimpArgs false
set_option linter.unusedVariables false
open Go.RowKit Go.Maps

theorem flat_at {α : Type} (f : α → List Value) {m : Nat} : ∀ (xs : List α), (∀ x ∈ xs, (f x).length = m) → ∀ (i : Nat) (x : α), xs[i]? = some x → ∀ (j : Nat) (v : Value), (f x)[j]? = some v → (xs.flatMap f)[i * m + j]? = some v
  | [], _, i, x, hx, j, v, hv => by simp at hx
  | y :: ys, hm, 0, x, hx, j, v, hv => by
    simp only [List.getElem?_cons_zero, Option.some.injEq] at hx
    subst hx
    rw [List.flatMap_cons, Nat.zero_mul, Nat.zero_add, List.getElem?_append_left (List.getElem?_eq_some_iff.1 hv).1]
    exact hv
  | y :: ys, hm, i + 1, x, hx, j, v, hv => by
    have ih := flat_at f ys (fun x hx => hm x (List.mem_cons_of_mem _ hx)) i x (by simpa using hx) j v hv
    have hl := hm y List.mem_cons_self
    rw [List.flatMap_cons, List.getElem?_append_right (by rw [hl, Nat.succ_mul]; omega), hl, show (i + 1) * m + j - m = i * m + j by rw [Nat.succ_mul]; omega]
    exact ih
theorem Sl.flat {α : Type} {f : α → List Value} {w : World} {B m n : Nat} {A : Option Addr} {xs : List α} (h : Sl w B m A n (xs.flatMap f)) (hm : ∀ x ∈ xs, (f x).length = m) (h0 : 0 < m) (hn : 0 < n) : ∃ b o, A = some ⟨b, o, none⟩ ∧ b < B ∧ ∀ i x, xs[i]? = some x → w.rangeAt b (o + i * m) (f x) := by
  obtain ⟨b, o, rfl, hb, hc⟩ := h.spot hn h0
  exact ⟨b, o, rfl, hb, fun i x hx j v hv => by rw [Nat.add_assoc]; exact hc _ _ (flat_at f xs hm i x hx j v hv)⟩
/-- A hop's lock: but for its height it is as the first one. -/
structure Hop where
  u : Int
  A : Option Addr
  c : Nat
def hopL (L : LkT) (x : Hop) : LkT := ⟨L.k, L.h, L.ks, L.s, L.c, x.u⟩
def hopC (L : LkT) (n : Nat) (x : Hop) : List Value := lkC (hopL L x) (.slice x.A n x.c)
theorem hopC_len {L : LkT} (hh : DgOk L.h) (n : Nat) (x : Hop) : (hopC L n x).length = 13 := lkC_len (L := hopL L x) hh _
structure HpS (w wk : World) (z : Nat) (L : LkT) (A : Option Addr) (n C : Nat) (b0 : Nat) (v : Value) (hs : List Hop) (win : Int) : Prop where
  lk : Bk wk z 26 (lkC L (.slice A n C))
  k : wk.ownsRow w.heap.size 23 8 (.slice A n C) n (cellsD L.ks)
  row : wk.ownsRow b0 26 13 v hs.length (hs.flatMap (hopC L n))
  ks : ∀ x ∈ hs, wk.ownsRow 0 23 8 (.slice x.A n x.c) n (cellsD L.ks)
  us : ∀ (i : Nat) (x : Hop), hs[i]? = some x → x.u = L.u - i * win ∧ 0 ≤ x.u
  hb : Below w.heap.size w wk
  zb : z < b0
  wb : w.heap.size ≤ b0
section
variable {w wk wn : World} {z n C b0 : Nat} {L : LkT} {A : Option Addr} {v v' : Value} {hs : List Hop} {win : Int}
theorem HpS.later (h : HpS w wk z L A n C b0 v hs win) (hb : Below wk.heap.size wk wn) : HpS w wn z L A n C b0 v hs win :=
  ⟨h.lk.later hb, own_keep h.k hb, own_keep h.row hb, fun x hx => own_keep (h.ks x hx) hb, h.us, below_then h.hb hb, h.zb, h.wb⟩
theorem bk_low {w w' : World} {g base size n : Nat} {t e : TypeId} {v : Value} {xs ys : List Value} (h : Bk w g t ys) (ho : w.ownsRow base e size v n xs) (hb : g < base) (hg : w.grownBy w' v.ownBlock) : Bk w' g t ys := by
  rcases own_bk ho with ⟨rfl, _⟩ | ⟨q, cap, zs, rfl, hq, _⟩
  · exact h.grown hg (by simp [Value.ownBlock])
  · exact h.grown hg (by intro e; have e2 : g = q := (by simpa [Value.ownBlock] using e); omega)
theorem HpS.app (h : HpS w wk z L A n C b0 v hs win) {x : Hop} (ho : wn.ownsRow b0 26 13 v' (hs.length + 1) (hs.flatMap (hopC L n) ++ hopC L n x)) (hg : wk.grownBy wn v.ownBlock)
    (hk : wk.ownsRow 0 23 8 (.slice x.A n x.c) n (cellsD L.ks)) (hu : x.u = L.u - hs.length * win ∧ 0 ≤ x.u) (hsz : b0 ≤ wk.heap.size) : HpS w wn z L A n C b0 v' (hs ++ [x]) win := by
  refine ⟨bk_low h.lk h.row h.zb hg, own_apart h.k h.row (by decide) hg, ?_, fun y hy => ?_, fun i y hy => ?_, grown_below h.hb h.row hg h.wb (Nat.le_trans h.wb hsz), h.zb, h.wb⟩
  · rw [List.flatMap_append, List.length_append, List.flatMap_cons, List.flatMap_nil, List.append_nil]; exact ho
  · rcases List.mem_append.1 hy with hy | hy
    · exact own_apart (h.ks y hy) h.row (by decide) hg
    · rw [List.mem_singleton] at hy; subst hy; exact own_apart hk h.row (by decide) hg
  · rcases Nat.lt_or_ge i hs.length with hi | hi
    · rw [List.getElem?_append_left hi] at hy; exact h.us i y hy
    · rw [List.getElem?_append_right hi] at hy
      have h0 : i - hs.length = 0 := by
        rcases Nat.eq_zero_or_pos (i - hs.length) with e | e
        · exact e
        · rw [List.getElem?_eq_none (by simp; omega)] at hy; cases hy
      rw [h0] at hy
      simp at hy
      subst hy
      rw [show i = hs.length by omega]
      exact hu
/-- Signing, and a proof that is written: hops stay. -/
theorem HpS.signs {wc : World} {gp : Nat} {pc : List Value} (h : HpS w wk z L A n C b0 v hs win) (hk : Keeps wk wc) (hf : Bk wc gp 39 pc) (hg : wc.grownBy wn (some gp)) (hb : Below w.heap.size w wn) : HpS w wn z L A n C b0 v hs win :=
  ⟨(h.lk.keeps hk (by decide) (by decide)).grown hg (fun e => by injection e with e; subst e; exact (h.lk.keeps hk (by decide) (by decide)).ne_ hf (by decide) rfl),
    own_only (own_keeps h.k hk (by decide) (by decide)) hg (own_bk_ne (own_keeps h.k hk (by decide) (by decide)) hf (by decide)),
    own_only (own_keeps h.row hk (by decide) (by decide)) hg (own_bk_ne (own_keeps h.row hk (by decide) (by decide)) hf (by decide)),
    fun x hx => own_only (own_keeps (h.ks x hx) hk (by decide) (by decide)) hg (own_bk_ne (own_keeps (h.ks x hx) hk (by decide) (by decide)) hf (by decide)), h.us, hb, h.zb, h.wb⟩
theorem HpS.hop {A' : Option Addr} {m D : Nat} (h : HpS w wk z L A n C b0 (.slice A' m D) hs win) (hh : DgOk L.h) (hm : 0 < m) : m = hs.length ∧ ∃ b o, A' = some ⟨b, o, none⟩ ∧ b < wk.heap.size ∧ ∀ i x, hs[i]? = some x → wk.rangeAt b (o + i * 13) (hopC L n x) := by
  obtain ⟨A2, c2, e⟩ := own_form h.row
  injection e with e1 e2 e3
  have hr := h.row
  subst e2
  exact ⟨rfl, (Sl.of_own hr).flat (fun x _ => hopC_len hh n x) (by decide) hm⟩
end
theorem lk_parts : ∃ i z, Try.prog.info? 26 = some i ∧ i.zero = some z ∧ i.size = 13 ∧ i.bytes = 64 ∧ z.cells.size = 13 := by
  have : (Try.prog.info? 26).map (fun i => (i.zero.map fun z => z.cells.size, i.size, i.bytes)) = some (some 13, 13, 64) := by kernel_rfl
  cases hq : Try.prog.info? 26 with
  | none => rw [hq] at this; cases this
  | some i =>
    rw [hq] at this
    simp only [Option.map_some, Option.some.injEq, Prod.mk.injEq] at this
    obtain ⟨h1, h2, h3⟩ := this
    cases hz : i.zero with
    | none => rw [hz] at h1; cases h1
    | some z =>
      rw [hz] at h1
      simp only [Option.map_some, Option.some.injEq] at h1
      exact ⟨i, z, rfl, hz, h2, h3, h1⟩
theorem bs_lk1 {L : LkT} (hh : DgOk L.h) (A : Option Addr) (n c : Nat) (w : World) : (Instr.buildSlice 48 1 #[(0, .agg (lkC L (.slice A n c)).toArray)]).run Try.prog w = .ok (.slice (some ⟨w.heap.size, 0, none⟩) 1 1) (w.alloc (.cells (lkC L (.slice A n c)).toArray 26)) := by
  obtain ⟨k, h, ks, s, cc, u⟩ := L
  obtain ⟨x0, x1, x2, x3, x4, x5, x6, x7, rfl⟩ := list8 h hh.len
  kernel_rfl
/-- What opening a hop's lock says. -/
def goodL (L : LkT) : Bool := decide (L.k ≠ 0) || decide (oneI zeroD = L.h)
def hopO (L : LkT) (x : Hop) (now : Int) : Int × Int := if x.u < now then (0, 19) else if goodL L = true then (L.c, 0) else (0, 29)
end Go.Proofs.Ytbclfjdamklbpaa
