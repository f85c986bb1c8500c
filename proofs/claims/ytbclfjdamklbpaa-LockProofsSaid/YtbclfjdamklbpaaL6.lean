/- A payout that so many keys have signed: the plain law, and what stands. -/
import Derived.Test.YtbclfjdamklbpaaL5
import Derived.Test.YtbclfjdamklbpaaRL
namespace Go.Proofs.Ytbclfjdamklbpaa
set_option linter.unusedSimpArgs false
set_option linter.unusedVariables false
open Go.RowKit Go.Maps

/-- What stands in the book, and in whose name, behind so many keys. -/
def sgO (es : List Ent) (m : List Int) (many : Int) (ks : List (List Int)) : Nat → List (List Int) × List Ent
  | 0 => ([], es)
  | i + 1 => if (i : Int) < many then ((sgO es m many ks i).1 ++ [sigB ((sgO es m many ks i).2.idxOf (ks.getD i [], m))], bookS (sgO es m many ks i).2 (ks.getD i [], m)) else ((sgO es m many ks i).1 ++ [[]], (sgO es m many ks i).2)
theorem sgO_len (es : List Ent) (m : List Int) (many : Int) (ks : List (List Int)) : ∀ i, (sgO es m many ks i).1.length = i ∧ (sgO es m many ks i).2.length ≤ es.length + i
  | 0 => ⟨rfl, Nat.le_refl _⟩
  | i + 1 => by
    obtain ⟨h1, h2⟩ := sgO_len es m many ks i
    rw [sgO]
    split
    · refine ⟨by simp [h1], ?_⟩
      have := bookS_len (sgO es m many ks i).2 (ks.getD i [], m)
      show (bookS _ _).length ≤ _
      omega
    · exact ⟨by simp [h1], by show (sgO es m many ks i).2.length ≤ _; omega⟩
theorem verB_more {es : List Ent} {e : Ent} {s : List Int} (h : verB es e s = true) (f : Ent) : verB (bookS es f) e s = true := by
  unfold verB at h ⊢
  obtain ⟨h1, h2⟩ := of_decide_eq_true h
  unfold bookS
  split
  · exact decide_eq_true ⟨h1, h2⟩
  · exact decide_eq_true ⟨List.mem_append_left _ h1, by rw [idx_app_old h1]; exact h2⟩
theorem verB_self (es : List Ent) (e : Ent) : verB (bookS es e) e (sigB (es.idxOf e)) = true := by
  unfold verB bookS
  split
  · rename_i h
    exact decide_eq_true ⟨h, rfl⟩
  · rename_i h
    exact decide_eq_true ⟨by simp, by rw [idx_app_new h, List.idxOf_eq_length h]⟩
theorem verB_none (es : List Ent) (e : Ent) : verB es e [] = false := by
  rw [verB, decide_eq_false_iff_not]
  rintro ⟨_, h⟩
  simp [sigB] at h
theorem sgO_ver (es : List Ent) (m : List Int) (many : Int) (ks : List (List Int)) : ∀ n i, i < n → verB (sgO es m many ks n).2 (ks.getD i [], m) ((sgO es m many ks n).1.getD i []) = decide ((i : Int) < many)
  | 0, i, h => absurd h (by omega)
  | n + 1, i, h => by
    obtain ⟨h1, _⟩ := sgO_len es m many ks n
    have ih := sgO_ver es m many ks n i
    rw [sgO]
    rcases Nat.lt_or_ge i n with hi | hi
    · have hg : ∀ x, ((sgO es m many ks n).1 ++ [x]).getD i [] = (sgO es m many ks n).1.getD i [] := fun x => by
        rw [List.getD_eq_getElem?_getD, List.getD_eq_getElem?_getD, List.getElem?_append_left (by omega)]
      split
      · rename_i hm
        show verB (bookS _ _) _ (((sgO es m many ks n).1 ++ [_]).getD i []) = _
        rw [hg]
        have hd : decide ((i : Int) < many) = true := by simp; omega
        rw [hd] at ih ⊢
        exact verB_more (ih hi) _
      · show verB _ _ (((sgO es m many ks n).1 ++ [_]).getD i []) = _
        rw [hg]; exact ih hi
    · obtain rfl : i = n := by omega
      have hg : ∀ x, ((sgO es m many ks i).1 ++ [x]).getD i [] = x := fun x => by
        rw [List.getD_eq_getElem?_getD, List.getElem?_append_right (by omega), h1]; simp
      split
      · rename_i hm
        show verB (bookS _ _) _ (((sgO es m many ks i).1 ++ [_]).getD i []) = _
        rw [hg, verB_self]; simp [hm]
      · rename_i hm
        show verB _ _ (((sgO es m many ks i).1 ++ [_]).getD i []) = _
        rw [hg, verB_none]; simp [hm]
theorem allB_iff {es : List Ent} {m : List Int} {ks : List (List Int)} {ps : List Pc} : allB es m ks ps [] = true ↔ ∀ i, i < ks.length → verB es (ks.getD i [], m) ((ps.map Pc.bs).getD i []) = true := by
  unfold allB missB
  rw [List.isEmpty_iff, List.filter_eq_nil_iff]
  constructor
  · intro h i hi
    have := h i (List.mem_range.2 hi)
    simpa [badB] using this
  · intro h i hi
    have := h i (List.mem_range.1 hi)
    unfold badB
    rw [this]
    simp
/-- Have all of them signed? -/
theorem sgO_all {es : List Ent} {m : List Int} {many : Int} {ks : List (List Int)} {ps : List Pc} (h0 : 0 < ks.length) (hp : ps.map Pc.bs = (sgO es m many ks ks.length).1) : allB (sgO es m many ks ks.length).2 m ks ps [] = decide ((ks.length : Int) ≤ many) := by
  by_cases h : (ks.length : Int) ≤ many
  · rw [decide_eq_true h, allB_iff]
    intro i hi
    rw [hp, sgO_ver _ _ _ _ _ _ hi]
    simp; omega
  · rw [decide_eq_false h]
    have hn : ¬ allB (sgO es m many ks ks.length).2 m ks ps [] = true := by
      rw [allB_iff]
      intro hh
      have := hh (ks.length - 1) (by omega)
      rw [hp, sgO_ver _ _ _ _ _ _ (by omega)] at this
      have := of_decide_eq_true this
      omega
    simpa using hn
def zPf : List Value := pfC zeroD (.slice none 0 0) (.slice none 0 0)
theorem KeepsT {w wk wn : World} {q : Nat} (h : Keeps w wk) (hg : wk.grownBy wn (some q)) (hq : w.heap.size ≤ q) : Keeps w wn :=
  ⟨Nat.le_trans h.size hg.size, fun i cs t fr hi h1 h2 => by
    have hlt := (Array.getElem?_eq_some_iff.1 hi).1
    rw [hg.block i (Nat.lt_of_lt_of_le hlt h.size) (by intro e; injection e with e; omega)]
    exact h.blk i cs t fr hi h1 h2⟩
theorem KeepsO {w wk wn : World} {n size : Nat} {e : TypeId} {v : Value} {xs : List Value} (h : Keeps w wk) (ho : wk.ownsRow w.heap.size e size v n xs) (hg : wk.grownBy wn v.ownBlock) : Keeps w wn := by
  rcases own_bk ho with ⟨rfl, _⟩ | ⟨q, cap, ys, rfl, hq, _⟩
  · exact ⟨Nat.le_trans h.size hg.size, fun i cs t fr hi h1 h2 => by
      have hlt := (Array.getElem?_eq_some_iff.1 hi).1
      rw [hg.block i (Nat.lt_of_lt_of_le hlt h.size) (by simp [Value.ownBlock])]
      exact h.blk i cs t fr hi h1 h2⟩
  · exact KeepsT h hg hq
/-- Rows that stay, whoever signs: a lock's keys, and what is paid. -/
structure Rw (w : World) (ks : List (List Int)) (A : Option Addr) (N C : Nat) (zs : List Int) (B : Option Addr) (M D : Nat) : Prop where
  k : w.ownsRow 0 23 8 (.slice A N C) N (cellsD ks)
  z : w.ownsRow 0 3 1 (.slice B M D) M (zs.map (.int .i64))
section
variable {w wk wn : World} {lo g z gm gp : Nat} {es : List Ent} {l cs : List Value} {m : List Int} {ks : List (List Int)} {A B : Option Addr} {N C M D : Nat} {zs : List Int} {sv : Value} {ps : List Pc}
theorem Rw.later (h : Rw w ks A N C zs B M D) (hb : Below w.heap.size w wn) : Rw wn ks A N C zs B M D := ⟨own_keep h.k hb, own_keep h.z hb⟩
theorem Rw.keeps (h : Rw w ks A N C zs B M D) (hk : Keeps w wn) : Rw wn ks A N C zs B M D := ⟨own_keeps h.k hk (by decide) (by decide), own_keeps h.z hk (by decide) (by decide)⟩
/-- What stands while keys sign. -/
structure OC (w wk : World) (lo g : Nat) (es : List Ent) (z gm gp : Nat) (l : List Value) (m : List Int) (ks : List (List Int)) (A : Option Addr) (N C : Nat) (zs : List Int) (B : Option Addr) (M D : Nat) (sv : Value) (ps : List Pc) : Prop where
  lk : Bk wk z 26 l
  rs : Bk wk (z + 1) 39 zPf
  mg : Bk wk gm 23 (dl m)
  pf : Bk wk gp 39 (pfC zeroD (.slice B M D) sv)
  rw_ : Rw wk ks A N C zs B M D
  sg : wk.ownsRow w.heap.size 56 1 sv ps.length (ps.map Pc.v)
  po : PcsOwn wk 0 ps
  bk : BookAt wk lo g es
  hb : Below lo w wk
  hk : Keeps w wk
  lw : lo ≤ w.heap.size
  wp : w.heap.size ≤ gp
  zp : z + 1 < gp
theorem OC.later (h : OC w wk lo g es z gm gp l m ks A N C zs B M D sv ps) (hb : Below wk.heap.size wk wn) : OC w wn lo g es z gm gp l m ks A N C zs B M D sv ps :=
  ⟨h.lk.later hb, h.rs.later hb, h.mg.later hb, h.pf.later hb, h.rw_.later hb, own_keep h.sg hb, h.po.later hb, h.bk.later hb, h.hb.trans (hb.mono (Nat.le_trans h.lw h.hk.size)), h.hk.trans (Keeps.of_below hb), h.lw, h.wp, h.zp⟩
theorem OC.sign (h : OC w wk lo g es z gm gp l m ks A N C zs B M D sv ps) {es' : List Ent} (hk : Keeps wk wn) (hb : Below lo wk wn) (hbk : BookAt wn lo g es') : OC w wn lo g es' z gm gp l m ks A N C zs B M D sv ps :=
  ⟨h.lk.keeps hk (by decide) (by decide), h.rs.keeps hk (by decide) (by decide), h.mg.keeps hk (by decide) (by decide), h.pf.keeps hk (by decide) (by decide), h.rw_.keeps hk, own_keeps h.sg hk (by decide) (by decide), fun p hp => own_keeps (h.po p hp) hk (by decide) (by decide), hbk, h.hb.trans hb, h.hk.trans hk, h.lw, h.wp, h.zp⟩
/-- One signature more, and what the proof bears then. -/
theorem OC.app (h : OC w wk lo g es z gm gp l m ks A N C zs B M D sv ps) {sv' : Value} {p : Pc} (hp : PcsOwn wk 0 [p]) (ho : wn.ownsRow w.heap.size 56 1 sv' (ps.length + 1) (ps.map Pc.v ++ [p.v])) (hg : wk.grownBy wn sv.ownBlock) {wp : World} (hput : Put wn wp gp 39 (pfC zeroD (.slice B M D) sv')) : OC w wp lo g es z gm gp l m ks A N C zs B M D sv' (ps ++ [p]) := by
  have b1 := h.lk.grown hg (Ne.symm (own_bk_ne h.sg h.lk (by decide)))
  have b2 := h.rs.grown hg (Ne.symm (own_bk_ne h.sg h.rs (by decide)))
  have b3 := h.mg.grown hg (Ne.symm (own_bk_ne h.sg h.mg (by decide)))
  have b4 := h.pf.grown hg (Ne.symm (own_bk_ne h.sg h.pf (by decide)))
  have r1 := own_apart h.rw_.k h.sg (by decide) hg
  have r2 := own_apart h.rw_.z h.sg (by decide) hg
  have k1 := KeepsO h.hk h.sg hg
  have hb1 := grown_below h.hb h.sg hg h.lw (Nat.le_trans h.lw h.hk.size)
  have bk1 := h.bk.own h.sg hg (by decide) (by decide)
  have hpo : PcsOwn wn 0 (ps ++ [p]) := fun q hq => by
    rcases List.mem_append.1 hq with hq | hq
    · exact own_apart (h.po q hq) h.sg (by decide) hg
    · exact own_apart (hp q hq) h.sg (by decide) hg
  have hl := h.lw; have hw := h.wp; have hz := h.zp
  refine ⟨b1.grown hput.only (by intro e; injection e with e; omega), b2.grown hput.only (by intro e; injection e with e; omega), b3.grown hput.only (fun e => by injection e with e; subst e; exact b3.ne_ b4 (by decide) rfl), hput.bk, ⟨own_only r1 hput.only (own_bk_ne r1 b4 (by decide)), own_only r2 hput.only (own_bk_ne r2 b4 (by decide))⟩, ?_, fun q hq => own_only (hpo q hq) hput.only (own_bk_ne (hpo q hq) b4 (by decide)), bk1.put hput b4 (by decide) (by decide), below_only hb1 hput.only (Nat.le_trans hl k1.size) (by omega), KeepsT k1 hput.only hw, h.lw, h.wp, h.zp⟩
  have := own_only ho hput.only (own_bk_ne ho b4 (by decide))
  simpa using this
end
theorem bs_s1 (A : Option Addr) (n c : Nat) (w : World) : (Instr.buildSlice 37 1 #[(0, .slice A n c)]).run Try.prog w = .ok (.slice (some ⟨w.heap.size, 0, none⟩) 1 1) (w.alloc (.cells ([.slice A n c] : List Value).toArray 56)) := by kernel_rfl
theorem build_pf (A : Option Addr) (n c : Nat) (w : World) : (Instr.build 39 #[(1, .slice A n c)]).run Try.prog w = .ok (.agg (pfC zeroD (.slice A n c) (.slice none 0 0)).toArray) w := by kernel_rfl
end Go.Proofs.Ytbclfjdamklbpaa
