/- What opens a lock: what stands when it is made. -/
import Derived.Test.YtbclfjdamklbpaaLF
import Derived.Test.YtbclfjdamklbpaaLD
namespace Go.Proofs.Ytbclfjdamklbpaa
set_option linter.unusedSimpArgs false
set_option linter.unusedVariables false
open Go.RowKit Go.Maps

theorem wp_mk {P : Program} {o : Oper} {a : Act} {w : World} {K : Act → World → Prop} {Q : Exit → Act → World → Prop} (t : TypeId) (n c : Operand) (ho : o.op = .makeSlice t n c) (N C V : Value) (hn : a.eval n = N) (hc : a.eval c = C) (w' : World)
    (hb : (Instr.makeSlice t N C).run P w = .ok V w') (h : K (a.put o.dst V) w') : o.wp P a w K Q := by
  unfold Oper.wp
  simp [execOp, ho, hn, hc, hb, Result.andThen]
  exact h
def zerosI (n : Nat) : List Int := List.replicate n 0
theorem zerosI_ok (n : Nat) : I64Ok (zerosI n) := fun z hz => by rw [List.eq_of_mem_replicate hz]; omega
theorem zerosI_bd (n : Nat) : ∀ z ∈ zerosI n, 0 ≤ z ∧ z ≤ 1125899906842624 := fun z hz => by rw [List.eq_of_mem_replicate hz]; omega
theorem zerosI_len (n : Nat) : (zerosI n).length = n := by simp [zerosI]
theorem zerosI_getD (n k : Nat) : (zerosI n).getD k 0 = 0 := by
  rw [List.getD_eq_getElem?_getD, zerosI, List.getElem?_replicate]; split <;> rfl
theorem make_i (N : Nat) (hN : N ≤ 5000) (W : World) : (Instr.makeSlice 27 (.int .i64 (N : Int)) (.int .i64 (N : Int))).run Try.prog W = .ok (.slice (some ⟨W.heap.size, 0, none⟩) N N) (W.alloc (.cells ((zerosI N).map (.int .i64)).toArray 3)) := by
  obtain ⟨d0, hdi, hd0, hd1, hd2⟩ := info_parts Try.infoInt
  have := run_make (P := Try.prog) W 27 3 d0 (.int .i64 0) Try.underlying27 hdi hd0 .i64 .i64 N N (by omega) (Int.le_refl _) (by rw [hd2]; omega) (by omega)
  rw [hd1, Int.toNat_natCast, Nat.mul_one] at this
  have hz : madeCells (Value.int .i64 0).cells N = ((zerosI N).map (.int .i64)).toArray := by
    have h1 := toList_made (z := Value.int .i64 0) (n := N)
    show madeCells #[Value.int .i64 0] N = _
    rw [← Array.toArray_toList (xs := madeCells #[Value.int .i64 0] N), h1]
    simp [zerosI]
  rw [hz] at this
  exact this
/-- A lock, and the book. -/
structure TO (w wk : World) (g : Nat) (es : List Ent) (z : Nat) (L : LkT) (A : Option Addr) (n C : Nat) : Prop where
  lk : Bk wk z 26 (lkC L (.slice A n C))
  k : wk.ownsRow w.heap.size 23 8 (.slice A n C) n (cellsD L.ks)
  bk : BookAt wk w.heap.size g es
  hb : Below w.heap.size w wk
/-- What opens a lock. -/
structure OP (wk : World) (lo g : Nat) (es : List Ent) (gp : Nat) (n : Nat) (B : Option Addr) (m D : Nat) (E : Option Addr) (q G : Nat) (zs : List Int) (ps : List Pc) : Prop where
  pf : Bk wk gp 39 (pfC zeroD (.slice B m D) (.slice E q G))
  bk : BookAt wk lo g es
  pr : PrT wk B m zs E q ps
  mq : m = n → q = n
  el : es.length ≤ 65536
section
variable {w wk wn : World} {g z n C lo gp m D q G : Nat} {es es' : List Ent} {L : LkT} {A B E : Option Addr} {zs : List Int} {ps : List Pc}
theorem TO.later (h : TO w wk g es z L A n C) (hb : Below wk.heap.size wk wn) : TO w wn g es z L A n C :=
  ⟨h.lk.later hb, own_keep h.k hb, h.bk.later hb, below_then h.hb hb⟩
theorem TO.sign (h : TO w wk g es z L A n C) (hk : Keeps wk wn) (hb : Below w.heap.size wk wn) (hbk : BookAt wn w.heap.size g es') : TO w wn g es' z L A n C :=
  ⟨h.lk.keeps hk (by decide) (by decide), own_keeps h.k hk (by decide) (by decide), hbk, h.hb.trans hb⟩
theorem OP.later (h : OP wk lo g es gp n B m D E q G zs ps) (hb : Below wk.heap.size wk wn) : OP wn lo g es gp n B m D E q G zs ps :=
  ⟨h.pf.later hb, h.bk.later hb, h.pr.later hb, h.mq, h.el⟩
/-- How a lock is opened by it. -/
theorem OP.open_ (h : OP wk lo g es gp n B m D E q G zs ps) (hl : LkK wk L A n) (now : Int) :
    Calls Try.prog 13 #[.agg (lkC L (.slice A n C)).toArray, .iface 29 (.pointer (some ⟨g, 0, none⟩)), .int .i64 now, .agg (pfC zeroD (.slice B m D) (.slice E q G)).toArray] wk (RetO (openO es L n now zeroD zs ps) wk) :=
  open_any wk lo g es h.bk h.el L A n C hl zeroD zero_ok B E m D q G zs ps h.pr h.mq now
end
/-- The proof of no payout: of no keys. -/
theorem OP.none_ {wk : World} {lo g gp : Nat} (hb : BookAt wk lo g []) (hp : Bk wk gp 39 zPf) : OP wk lo g [] gp 0 none 0 0 none 0 0 [] [] :=
  ⟨hp, hb, ⟨Sl.nil, fun z hz => by simp at hz, Sl.nil, fun p hp => by simp at hp, fun p hp => by simp at hp, fun p hp => by simp at hp, by omega⟩, fun h => h, by simp⟩
/-- What opening says of a lock by an outcome that all have signed. -/
theorem openO_all {es : List Ent} {L : LkT} {n : Nat} {zs : List Int} {ps : List Pc} (hc : checkL L.k L.s L.c L.u n = 0) (hk : L.k ≠ 0) (hz : zs = zerosI n) (ha : allB es (msgO L.h zs) L.ks ps [] = true) (now : Int) : openO es L n now zeroD zs ps = if L.u < now then (0, 19) else (L.c, 0) := by
  obtain ⟨e1, _⟩ := checkL_zero hc
  have ho : outO es L n zs ps = (L.c, 0) := by
    rw [outO, if_neg (by rw [hz, zerosI_len]; simp), if_pos ha, hz, zerosI_getD, show max 0 (L.c - 0) = L.c by omega]
  rw [openO, if_pos hc, if_neg hk, ho]
theorem openO_key {es : List Ent} {L : LkT} {n : Nat} {zs : List Int} {ps : List Pc} (hc : checkL L.k L.s L.c L.u n = 0) (hk : L.k = 0) (now : Int) : openO es L n now zeroD zs ps = if L.u < now then (0, 19) else keyO L.h zeroD L.c := by
  rw [openO, if_pos hc, if_pos hk]
theorem openO_bad {es : List Ent} {L : LkT} {n : Nat} {key zs : List Int} {ps : List Pc} {x : Int} (hc : checkL L.k L.s L.c L.u n = x) (hx : x ≠ 0) (now : Int) : openO es L n now key zs ps = (0, x) := by
  rw [openO, hc, if_neg hx]
end Go.Proofs.Ytbclfjdamklbpaa
