/- Blocks as bytes: the words. -/
import Derived.Test.YtbpmomedhdmloaaDoorBM
import Derived.Test.YtbpmomedhdmloaaDoorBD
namespace Go.Proofs.YtbpmomedhdmloaaDoor
set_option linter.unusedSimpArgs false
set_option linter.unusedVariables false
open Go.RowKit Go.Maps

/-- What stands while bytes are written. -/
structure EyS (ty : TypeId) (w0 w : World) (z : Nat) (l : List Value) (v : Value) (e : List Int) : Prop where
  lk : Bk w z ty l
  ro : w.ownsRow w0.heap.size 5 1 v e.length (e.map (.int .u8))
  hb : Below w0.heap.size w0 w
section
variable {ty : TypeId} {w0 w wn : World} {z : Nat} {l : List Value} {v v' : Value} {e : List Int}
theorem EyS.later (h : EyS ty w0 w z l v e) (hb : Below w.heap.size w wn) : EyS ty w0 wn z l v e := ⟨h.lk.later hb, own_keep h.ro hb, below_then h.hb hb⟩
theorem EyS.app (hne : 5 ≠ ty) (h : EyS ty w0 w z l v e) {y : List Int} (ho : wn.ownsRow w0.heap.size 5 1 v' (e.length + y.length) (e.map (.int .u8) ++ y.map (.int .u8))) (hg : w.grownBy wn v.ownBlock) : EyS ty w0 wn z l v' (e ++ y) :=
  ⟨h.lk.grown hg (Ne.symm (own_bk_ne h.ro h.lk hne)), by rw [List.length_append, List.map_append]; exact ho, grown_below h.hb h.ro hg (Nat.le_refl _) h.hb.size⟩
theorem EyS.form (h : EyS ty w0 w z l v e) : ∃ A c, v = .slice A e.length c := own_form h.ro
end
/-- The bytes of a block's transactions, and of a block. -/
def encL (L : List TxT) : List Int := L.flatMap fun t => lstB (txB t)
def encB (p : List Int) (h : Int) (m : List Int) (L : List TxT) : List Int := headB p h m L.length ++ encL L
theorem encL_snoc {L : List TxT} {k : Nat} {t : TxT} (hk : L[k]? = some t) : encL (L.take (k + 1)) = encL (L.take k) ++ lstB (txB t) := by
  rw [take_snoc hk, encL, List.flatMap_append]
  simp [encL]
theorem fit_len {t : TxT} (h : txFit t = true) : t.b.length ≤ 32768 ∧ t.s.length ≤ 1024 := by
  unfold txFit at h
  simp only [Bool.and_eq_true, decide_eq_true_eq] at h
  exact h.2.2
theorem blk_tx {h : Int} {L : List TxT} (hE : blkE h L = 0) {t : TxT} (ht : t ∈ L) : txE t = 0 ∧ t.b.length ≤ 32768 ∧ t.s.length ≤ 1024 :=
  ⟨txsE_all L [] (blkE_zero hE).2.2.1 t ht, fit_len (txE_fit (txsE_all L [] (blkE_zero hE).2.2.1 t ht))⟩
theorem encL_len : ∀ (L : List TxT), (∀ t ∈ L, t.b.length ≤ 32768 ∧ t.s.length ≤ 1024) → (encL L).length ≤ L.length * 40000
  | [], _ => by simp [encL]
  | t :: L, h => by
    have h1 := encL_len L (fun u hu => h u (by simp [hu]))
    have h2 := h t (by simp)
    have h3 := txB_len t; have h4 := lstB_lenb (txB t)
    have e : encL (t :: L) = lstB (txB t) ++ encL L := by simp [encL]
    rw [e, List.length_append, List.length_cons]
    omega
/-- The bytes, and why there are none. -/
def encR (p : List Int) (h : Int) (m : List Int) (L : List TxT) : List Int := if blkE h L = 0 then encB p h m L else []

def t0T : TxT := ⟨zeroD, 0, 0, 0, [], []⟩
def txFin (e : Int) (t : TxT) : TxT × Int := if e ≠ 0 then (t0T, e) else if txE t ≠ 0 then (t0T, txE t) else (t, 0)
def txR6 (k f n e : Int) (b : List Int) (r : Rd × List Int) : TxT × Int := txFin (endR r.1) ⟨fromG f, n, e, k, b, r.2⟩
def txR5 (k f n e : Int) (r : Rd × List Int) : TxT × Int := txR6 k f n e r.2 (someR r.1 1024)
def txR4 (k f n : Int) (r : Rd × Int) : TxT × Int := txR5 k f n r.2 (someR r.1 32768)
def txR3 (k f : Int) (r : Rd × Int) : TxT × Int := txR4 k f r.2 (numR r.1 1125899906842624)
def txR2 (k : Int) (r : Rd × Int) : TxT × Int := txR3 k r.2 (numR r.1 1099511627776)
def txR1 (r : Rd × Int) : TxT × Int := txR2 r.2 (numR r.1 18446744073709551615)
/-- The transaction that bytes are, and why they are none. -/
def txRd (bs : List Int) : TxT × Int := txR1 (numR ⟨bs, 0⟩ 2)
structure BkT where
  p : List Int
  h : Int
  m : List Int
  L : List TxT
def bk0 : BkT := ⟨zeroD, 0, zeroD, []⟩
def bkFin (e : Int) (b : BkT) : BkT × Int := if e ≠ 0 then (bk0, e) else if blkE b.h b.L ≠ 0 then (bk0, blkE b.h b.L) else (b, 0)
def lpR (p : List Int) (h : Int) (m : List Int) : Nat → Rd → List TxT → BkT × Int
  | 0, s, L => bkFin (endR s) ⟨p, h, m, L⟩
  | k + 1, s, L => if (someR s 40000).1.err ≠ 0 then (bk0, (someR s 40000).1.err) else if (txRd (someR s 40000).2).2 ≠ 0 then (bk0, (txRd (someR s 40000).2).2) else lpR p h m k (someR s 40000).1 (L ++ [(txRd (someR s 40000).2).1])
def bkR4 (f h g : Int) (r : Rd × Int) : BkT × Int := lpR (fromG f) h (fromG g) r.2.toNat r.1 []
def bkR3 (f h : Int) (r : Rd × Int) : BkT × Int := bkR4 f h r.2 (numR r.1 64)
def bkR2 (f : Int) (r : Rd × Int) : BkT × Int := bkR3 f r.2 (numR r.1 18446744073709551615)
def bkR1 (r : Rd × Int) : BkT × Int := bkR2 r.2 (numR r.1 1099511627776)
/-- The block that bytes are, and why they are none. -/
def bkRd (bs : List Int) : BkT × Int := bkR1 (numR ⟨bs, 0⟩ 18446744073709551615)
theorem numR_rngE {s : Rd} (ho : ByOk s.rest) {m : Int} (hm : 0 ≤ m) : 0 ≤ (numR s m).2 ∧ (numR s m).2 ≤ m ∧ ByOk (numR s m).1.rest := by
  unfold numR
  by_cases he : s.err = 0
  · rw [if_pos he]
    by_cases hl : (lookB s.rest).2.2 = 0
    · have hp := look_pos hl ho
      rw [if_pos hl]
      by_cases hmm : (lookB s.rest).1 ≤ m
      · rw [if_pos hmm]; exact ⟨hp.1, hmm, ho.drop _⟩
      · rw [if_neg hmm]; exact ⟨Int.le_refl _, hm, ho⟩
    · rw [if_neg hl]; exact ⟨Int.le_refl _, hm, ho⟩
  · rw [if_neg he]; exact ⟨Int.le_refl _, hm, ho⟩
theorem numR_stop {s : Rd} {m : Int} (h : (numR s m).2 ≠ 0) : (numR s m).1.err = 0 := by
  unfold numR at h ⊢
  by_cases he : s.err = 0
  · rw [if_pos he] at h ⊢
    by_cases hl : (lookB s.rest).2.2 = 0
    · rw [if_pos hl] at h ⊢
      by_cases hmm : (lookB s.rest).1 ≤ m
      · rw [if_pos hmm]
      · rw [if_neg hmm] at h; exact absurd rfl h
    · rw [if_neg hl] at h; exact absurd rfl h
  · rw [if_neg he] at h; exact absurd rfl h
theorem someR_okE {s : Rd} (ho : ByOk s.rest) (m : Int) : ByOk (someR s m).2 ∧ ByOk (someR s m).1.rest := by
  have hn : ByOk [] := fun x hx => by cases hx
  unfold someR
  by_cases he : s.err = 0
  · rw [if_pos he]
    by_cases hl : (lookB s.rest).2.2 = 0
    · rw [if_pos hl]
      by_cases hmm : (lookB s.rest).1 ≤ m
      · rw [if_pos hmm]
        split
        · exact ⟨(ho.drop _).take _, (ho.drop _).drop _⟩
        · exact ⟨hn, ho⟩
      · rw [if_neg hmm]; exact ⟨hn, ho⟩
    · rw [if_neg hl]; exact ⟨hn, ho⟩
  · rw [if_neg he]; exact ⟨hn, ho⟩
theorem someR_len {s : Rd} {m : Int} (hm : 0 ≤ m) (ho : ByOk s.rest) : ((someR s m).2.length : Int) ≤ m := by
  have hz : (([] : List Int).length : Int) ≤ m := by simpa using hm
  unfold someR
  by_cases he : s.err = 0
  · rw [if_pos he]
    by_cases hl : (lookB s.rest).2.2 = 0
    · rw [if_pos hl]
      by_cases hmm : (lookB s.rest).1 ≤ m
      · rw [if_pos hmm]
        split
        · have hp := look_pos hl ho
          show (((s.rest.drop (lookB s.rest).2.1).take (lookB s.rest).1.toNat).length : Int) ≤ m
          rw [List.length_take]; omega
        · exact hz
      · rw [if_neg hmm]; exact hz
    · rw [if_neg hl]; exact hz
  · rw [if_neg he]; exact hz
theorem zero_dg_ok : DgOk zeroD := zero_ok
theorem t0T_ok : TxOk t0T := ⟨zero_ok, (fun x hx => by cases hx), (fun x hx => by cases hx), by decide, by decide, by decide⟩
end Go.Proofs.YtbpmomedhdmloaaDoor
