/- BlockAbove: the walk. (Printed by tools/mkXBJ.py out of tools/XBP.body.) -/
import Derived.Test.YtbpmomedhdmloaaGreatDoorBC
import Derived.Test.YtbpmomedhdmloaaGreatDoorB8
import Derived.Test.YtbpmomedhdmloaaGreatDoorBO
namespace Go.Proofs.YtbpmomedhdmloaaGreatDoor
set_option linter.unusedSimpArgs false
set_option linter.unusedVariables false
open Go.RowKit Go.Maps

/-- Two blocks made out of two, and what is theirs. -/
structure TwoW (w0 w : World) (gX gY : Nat) (lX lY : List Value) (A1 : Option Addr) (N c1 : Nat) (xs : List (List Value × TxT)) (A2 : Option Addr) (N' c2 : Nat) (ys : List (List Value × TxT)) : Prop where
  x : Bk w gX 31 lX
  y : Bk w gY 31 lY
  ox : w.ownsRow w0.heap.size 76 13 (.slice A1 N c1) N ((xs.map (·.1)).flatten)
  oy : w.ownsRow w0.heap.size 76 13 (.slice A2 N' c2) N' ((ys.map (·.1)).flatten)
  bl : Below w0.heap.size w0 w
  ne : gX ≠ gY
  gx : w0.heap.size ≤ gX
  gy : w0.heap.size ≤ gY
section
variable {w0 w : World} {gX gY : Nat} {lX lY : List Value} {A1 : Option Addr} {N c1 : Nat} {xs : List (List Value × TxT)} {A2 : Option Addr} {N' c2 : Nat} {ys : List (List Value × TxT)}
theorem TwoW.later {w' : World} (T : TwoW w0 w gX gY lX lY A1 N c1 xs A2 N' c2 ys) (hb : Below w.heap.size w w') : TwoW w0 w' gX gY lX lY A1 N c1 xs A2 N' c2 ys :=
  ⟨T.x.later hb, T.y.later hb, own_keep T.ox hb, own_keep T.oy hb, below_then T.bl hb, T.ne, T.gx, T.gy⟩
theorem TwoW.put {w' : World} {l : List Value} (T : TwoW w0 w gX gY lX lY A1 N c1 xs A2 N' c2 ys) (hg : w.grownBy w' (some gX)) (k : Bk w' gX 31 l) : TwoW w0 w' gX gY l lY A1 N c1 xs A2 N' c2 ys :=
  ⟨k, T.y.grown hg (by intro e; injection e with e; have := T.ne; omega), own_only T.ox hg (own_bk_ne T.ox T.x (by decide)), own_only T.oy hg (own_bk_ne T.oy T.x (by decide)), below_only T.bl hg T.bl.size T.gx, T.ne, T.gx, T.gy⟩
theorem TwoW.txs (T : TwoW w0 w gX gY lX lY A1 N c1 xs A2 N' c2 ys) (h : ∀ x ∈ xs, Txg w0 x.1 x.2) : Txs w A1 N xs := ⟨Sl.of_own T.ox, fun x hx => (h x hx).later T.bl⟩
theorem TwoW.tys (T : TwoW w0 w gX gY lX lY A1 N c1 xs A2 N' c2 ys) (h : ∀ x ∈ ys, Txg w0 x.1 x.2) : Txs w A2 N' ys := ⟨Sl.of_own T.oy, fun x hx => (h x hx).later T.bl⟩
theorem TwoW.right {p m : List Int} {h : Int} (T : TwoW w0 w gX gY lX lY A1 N c1 xs A2 N' c2 ys) (e : bkC p h m (.slice A1 N c1) = lX) (hx : ∀ x ∈ xs, Txg w0 x.1 x.2) (hp : DgOk p) (hm : DgOk m) :
    Calls Tryz.prog 15 #[.agg lX.toArray] w fun e w' => e = .returned (.int .i64 (blkE h (xs.map (·.2)))) ∧ Below w.heap.size w w' := by
  rw [← e]; exact right_b w p h m hp hm A1 N c1 xs (T.txs hx)
theorem TwoW.check {p m p' m' : List Int} {h h' : Int} (T : TwoW w0 w gX gY lX lY A1 N c1 xs A2 N' c2 ys) (e : bkC p h m (.slice A1 N c1) = lX) (e' : bkC p' h' m' (.slice A2 N' c2) = lY) (hx : ∀ x ∈ xs, Txg w0 x.1 x.2) (hy : ∀ x ∈ ys, Txg w0 x.1 x.2) (hp : DgOk p) (hm : DgOk m) (hp' : DgOk p') (hm' : DgOk m')
    (hN : N' ≤ 1000) (hl : ∀ x ∈ ys, x.2.b.length ≤ 1073741000 ∧ x.2.s.length ≤ 1073741000) :
    Calls Tryz.prog 17 #[.agg lX.toArray, .agg lY.toArray] w fun e w' => e = .returned (.int .i64 (checkB (blkE h (xs.map (·.2))) p h (nameT p' h' m' N' (ys.map (·.2))) (blkE h' (ys.map (·.2))) h')) ∧ Below w.heap.size w w' := by
  rw [← e, ← e']
  exact check_any w p h m hp hm A1 N c1 xs (T.txs hx) p' h' m' hp' hm' A2 N' c2 ys (T.tys hy) _ (nameT_ok _ _ _ _ _) (fun w' hy' => bnameT_any w' p' h' m' hp' hm' A2 N' c2 ys hy' hN hl)
theorem TwoW.first {m p' m' : List Int} {h' : Int} {l : List Value} (T : TwoW w0 w gX gY lX lY A1 N c1 xs A2 N' c2 ys) (e : bkC zeroD 0 m (.slice none 0 0) = l) (e' : bkC p' h' m' (.slice A2 N' c2) = lY) (hy : ∀ x ∈ ys, Txg w0 x.1 x.2) (hm : DgOk m) (hp' : DgOk p') (hm' : DgOk m')
    (hN : N' ≤ 1000) (hl : ∀ x ∈ ys, x.2.b.length ≤ 1073741000 ∧ x.2.s.length ≤ 1073741000) (hh : 0 ≤ h') :
    Calls Tryz.prog 17 #[.agg l.toArray, .agg lY.toArray] w fun e w' => e = .returned (.int .i64 24) ∧ Below w.heap.size w w' := by
  rw [← e, ← e']
  have h1 := check_any w zeroD 0 m zero_ok hm none 0 0 [] (Txs.nil w) p' h' m' hp' hm' A2 N' c2 ys (T.tys hy) _ (nameT_ok _ _ _ _ _) (fun w' hy' => bnameT_any w' p' h' m' hp' hm' A2 N' c2 ys hy' hN hl)
  have h2 : checkB (blkE 0 (([] : List (List Value × TxT)).map (·.2))) zeroD 0 (nameT p' h' m' N' (ys.map (·.2))) (blkE h' (ys.map (·.2))) h' = 24 := by
    rw [show blkE 0 (([] : List (List Value × TxT)).map (·.2)) = 0 from blk0, checkB, if_neg (by simp), if_pos (Or.inr (Or.inr (by omega)))]
  rw [h2] at h1
  exact h1
theorem TwoW.name {p' m' : List Int} {h' : Int} (T : TwoW w0 w gX gY lX lY A1 N c1 xs A2 N' c2 ys) (e' : bkC p' h' m' (.slice A2 N' c2) = lY) (hy : ∀ x ∈ ys, Txg w0 x.1 x.2) (hp' : DgOk p') (hm' : DgOk m')
    (hN : N' ≤ 1000) (hl : ∀ x ∈ ys, x.2.b.length ≤ 1073741000 ∧ x.2.s.length ≤ 1073741000) :
    Calls Tryz.prog 9 #[.agg lY.toArray] w fun e w' => e = .returned (.tuple #[.agg (dl (nameT p' h' m' N' (ys.map (·.2)))).toArray, .int .i64 (blkE h' (ys.map (·.2)))]) ∧ Below w.heap.size w w' := by
  rw [← e']; exact bnameT_any w p' h' m' hp' hm' A2 N' c2 ys (T.tys hy) hN hl
end
theorem rdg_sz {d : List Int} (h : DgOk d) : (Tryz.prog.info? 22).map (·.size) = some (dl d).length := by rw [dl_len, h.len]; kernel_rfl
theorem firstr (w : World) {m : List Int} {l : List Value} (e : bkC zeroD 0 m (.slice none 0 0) = l) (hm : DgOk m) :
    Calls Tryz.prog 15 #[.agg l.toArray] w fun e w' => e = .returned (.int .i64 0) ∧ Below w.heap.size w w' := by
  rw [← e]
  have h1 := right_b w zeroD 0 m zero_ok hm none 0 0 [] (Txs.nil w)
  rw [show blkE 0 (([] : List (List Value × TxT)).map (·.2)) = 0 from blk0] at h1
  exact h1
theorem checkB_eq {E h' : Int} {D : List Int} : checkB E D (h' + 1) D 0 h' = E := by
  unfold checkB
  by_cases hE : E = 0
  · subst hE; rw [if_neg (by simp), eqL_self, if_neg (by simp)]
  · rw [if_pos hE]
theorem checkB_bad {p D : List Int} {h h' E' : Int} (hE : E' ≠ 0) : checkB 0 p h D E' h' = 24 := by rw [checkB, if_neg (by simp), if_pos (Or.inl hE)]
theorem checkB_no {p D : List Int} {h h' E' : Int} (hE : eqL p D = false) : checkB 0 p h D E' h' = 24 := by rw [checkB, if_neg (by simp), if_pos (Or.inr (Or.inl hE))]
theorem checkB_hi {p D : List Int} {h h' E' : Int} (hE : h ≠ h' + 1) : checkB 0 p h D E' h' = 24 := by rw [checkB, if_neg (by simp), if_pos (Or.inr (Or.inr hE))]
end Go.Proofs.YtbpmomedhdmloaaGreatDoor
