/- How the document reads a lock: the walk. -/
import Derived.Test.YtbclfjdamklbpaaLX
namespace Go.Proofs.Ytbclfjdamklbpaa
set_option linter.unusedSimpArgs false
set_option linter.unusedVariables false
open Go.RowKit Go.Maps

def rkeysN (s : Rd) : Nat → (Rd × List (List Int)) × Int
  | 0 => ((s, []), 0)
  | i + 1 => if (rkeysN s i).2 = 0 then (if (docDg (rkeysN s i).1.1).2 = 0 then (((docDg (rkeysN s i).1.1).1.1, (rkeysN s i).1.2 ++ [(docDg (rkeysN s i).1.1).1.2]), 0) else ((rkeysN s i).1, (docDg (rkeysN s i).1.1).2)) else rkeysN s i
def decRT (k : Int) (h : List Int) (ks : List (List Int)) (s : Rd) : LkT × Int :=
  decE (endR (numR (numR (numR s 7).1 1125899906842624).1 1099511627776).1) ⟨k, h, ks, (numR s 7).2, (numR (numR s 7).1 1125899906842624).2, (numR (numR (numR s 7).1 1125899906842624).1 1099511627776).2⟩
def decRK (k : Int) (h : List Int) (s : Rd) : LkT × Int :=
  if (rkeysN (numR s 8).1 (numR s 8).2.toNat).2 = 0 then decRT k h (rkeysN (numR s 8).1 (numR s 8).2.toNat).1.2 (rkeysN (numR s 8).1 (numR s 8).2.toNat).1.1 else (lk0, (rkeysN (numR s 8).1 (numR s 8).2.toNat).2)
def decR (bs : List Int) : LkT × Int :=
  if (docDg (numR ⟨bs, 0⟩ 1).1).2 = 0 then decRK (numR ⟨bs, 0⟩ 1).2 (docDg (numR ⟨bs, 0⟩ 1).1).1.2 (docDg (numR ⟨bs, 0⟩ 1).1).1.1 else (lk0, (docDg (numR ⟨bs, 0⟩ 1).1).2)
def RetRl (o : LkT × Int) (w : World) (e : Ending) (w' : World) : Prop :=
  ∃ (P : Option Addr) (c : Nat), e = .returned (.tuple #[.agg (lkC o.1 (.slice P o.1.ks.length c)).toArray, .int .i64 o.2]) ∧ w'.ownsRow w.heap.size 22 8 (.slice P o.1.ks.length c) o.1.ks.length (cellsD o.1.ks) ∧ DsOk o.1.ks ∧ DgOk o.1.h ∧ Below w.heap.size w w'
theorem rkeysN_stop {s : Rd} {k : Nat} (h : (rkeysN s k).2 ≠ 0) : ∀ j, rkeysN s (k + j) = rkeysN s k
  | 0 => rfl
  | j + 1 => by
    have ih := rkeysN_stop h j
    rw [← Nat.add_assoc, rkeysN, ih, if_neg h]
theorem rkeysN_len {s : Rd} : ∀ n, (rkeysN s n).1.2.length ≤ n
  | 0 => by simp [rkeysN]
  | n + 1 => by
    have := rkeysN_len (s := s) n
    rw [rkeysN]
    split
    · split
      · simp; omega
      · simp; omega
    · omega
theorem rz_lk (w : World) : (Instr.build 44 #[]).run Try.prog w = .ok (.agg zLk'.toArray) w := by kernel_rfl
theorem rzlk_size : (Try.prog.info? 44).map (·.size) = some zLk'.length := by kernel_rfl
theorem rldec_ret {w : World} {g : Nat} {cs : List Value} {n : Int} (hl : cs.length = 13) (h : Bk w g 44 cs) (tmps : Array Value) (h2 : tmps.getD 2 undef = .pointer (some ⟨g, 0, none⟩)) (h3 : tmps.getD 3 undef = .int .i64 n) :
    (results Try.f29 tmps).run Try.prog w = .ok (.tuple #[.agg cs.toArray, .int .i64 n]) w := by
  have r1 : w.rangeAt g 0 cs := Bk.range (pre := []) (post := []) (by simpa using h) rfl
  have l1 := run_loadVar_mid (P := Try.prog) w g 0 44 cs _ r1 Try.underlying44 rfl (by rw [hl]; exact rlk_size)
  rw [Array.getD_eq_getD_getElem?] at h2 h3
  simp [results, Try.results29, h2, h3, asAddr, l1]
theorem build_drl (k : Int) (h : List Int) (hh : DgOk h) (w : World) : (Instr.build 44 #[(0, .int .i64 k), (1, .agg (dl h).toArray)]).run Try.prog w = .ok (.agg (lkC ⟨k, h, [], 0, 0, 0⟩ (.slice none 0 0)).toArray) w := by
  obtain ⟨x0, x1, x2, x3, x4, x5, x6, x7, rfl⟩ := list8 h hh.len
  kernel_rfl
theorem build_rv (A : Option Addr) (n c : Nat) (w : World) : (Instr.build 117 #[(0, .slice A n c)]).run Try.prog w = .ok (.agg #[.slice A n c, .int .i64 0, .int .i64 0]) w := by kernel_rfl
/-- The reader, and what it stands at. -/
structure RdM (w0 w : World) (z g4 : Nat) (s : Rd) : Prop where
  rv : ∃ (A : Option Addr) (n c : Nat) (k : Int), Bk w g4 117 (rvC A n c k s.err) ∧ RvAt w w0.heap.size (.agg (rvC A n c k s.err).toArray) s
  rs : Bk w z 44 zLk'
  hb : Below w0.heap.size w0 w
  z0 : w0.heap.size ≤ z
  zg : z < g4
structure RcS (w0 w : World) (z g4 g8 : Nat) (s : Rd) (L : LkT) (p : Value) (ks : List (List Int)) : Prop extends RdM w0 w z g4 s where
  lk : Bk w g8 44 (lkC L p)
  ro : w.ownsRow w0.heap.size 22 8 p ks.length (cellsD ks)
  ko : DsOk ks
  lh : DgOk L.h
  gg : g4 < g8
section
variable {w0 w wn : World} {z g4 g8 : Nat} {s s' : Rd} {L : LkT} {p : Value} {ks : List (List Int)}
theorem RdM.later (h : RdM w0 w z g4 s) (hb : Below w.heap.size w wn) : RdM w0 wn z g4 s := by
  obtain ⟨A, n, c, k, h1, h2⟩ := h.rv
  exact ⟨⟨A, n, c, k, h1.later hb, h2.below (hb.mono h.hb.size)⟩, h.rs.later hb, below_then h.hb hb, h.z0, h.zg⟩
theorem RcS.later (h : RcS w0 w z g4 g8 s L p ks) (hb : Below w.heap.size w wn) : RcS w0 wn z g4 g8 s L p ks :=
  { h.toRdM.later hb with lk := h.lk.later hb, ro := own_keep h.ro hb, ko := h.ko, lh := h.lh, gg := h.gg }
theorem RdM.bel (h : RdM w0 w z g4 s) {q : Nat} (hg : w.grownBy wn (some q)) (hq : w0.heap.size ≤ q) : Below w0.heap.size w wn := (Below.refl _ _).grown hg h.hb.size (fun k hk => by injection hk with hk; omega)
/-- The reader's cells are set. -/
theorem RdM.put {A : Option Addr} {n c : Nat} {k : Int} (h : RdM w0 w z g4 s) (hr : RvAt w w0.heap.size (.agg (rvC A n c k s'.err).toArray) s') (hp : Put w wn g4 117 (rvC A n c k s'.err)) : RdM w0 wn z g4 s' := by
  have h1 := h.z0; have h2 := h.zg
  exact ⟨⟨A, n, c, k, hp.bk, hr.below (h.bel hp.only (by omega))⟩, h.rs.grown hp.only (by intro e; injection e with e; omega), below_only h.hb hp.only h.hb.size (by omega), h.z0, h.zg⟩
theorem RcS.putR {A : Option Addr} {n c : Nat} {k : Int} (h : RcS w0 w z g4 g8 s L p ks) (hr : RvAt w w0.heap.size (.agg (rvC A n c k s'.err).toArray) s') (hp : Put w wn g4 117 (rvC A n c k s'.err)) : RcS w0 wn z g4 g8 s' L p ks := by
  have h1 := h.z0; have h2 := h.zg; have h3 := h.gg
  obtain ⟨A0, n0, c0, k0, hk, _⟩ := h.rv
  exact { h.toRdM.put hr hp with lk := h.lk.grown hp.only (by intro e; injection e with e; omega), ro := own_only h.ro hp.only (own_bk_ne h.ro hk (by decide)), ko := h.ko, lh := h.lh, gg := h.gg }
theorem RcS.putL {L' : LkT} (h : RcS w0 w z g4 g8 s L p ks) (hp : Put w wn g8 44 (lkC L' p)) (hl : L'.h = L.h) : RcS w0 wn z g4 g8 s L' p ks := by
  have h1 := h.z0; have h2 := h.zg; have h3 := h.gg
  obtain ⟨A0, n0, c0, k0, hk, hr⟩ := h.rv
  exact ⟨⟨⟨A0, n0, c0, k0, hk.grown hp.only (by intro e; injection e with e; omega), hr.below (h.toRdM.bel hp.only (by omega))⟩, h.rs.grown hp.only (by intro e; injection e with e; omega), below_only h.hb hp.only h.hb.size (by omega), h.z0, h.zg⟩, hp.bk, own_only h.ro hp.only (own_bk_ne h.ro h.lk (by decide)), h.ko, by rw [hl]; exact h.lh, h.gg⟩
theorem RcS.key (h : RcS w0 w z g4 g8 s L p ks) {p' : Value} {x : List Int} (hx : DgOk x) (ho : wn.ownsRow w0.heap.size 22 8 p' (ks.length + 1) (cellsD ks ++ dl x)) (hg : w.grownBy wn p.ownBlock) {wp : World} (hp : Put wn wp g8 44 (lkC L p')) : RcS w0 wp z g4 g8 s L p' (ks ++ [x]) := by
  have h1 := h.z0; have h2 := h.zg; have h3 := h.gg
  obtain ⟨A0, n0, c0, k0, hk, hr⟩ := h.rv
  have b1 := hk.grown hg (Ne.symm (own_bk_ne h.ro hk (by decide)))
  have b2 := h.rs.grown hg (Ne.symm (own_bk_ne h.ro h.rs (by decide)))
  have b3 := h.lk.grown hg (Ne.symm (own_bk_ne h.ro h.lk (by decide)))
  have hb1 := grown_below h.hb h.ro hg (Nat.le_refl _) h.hb.size
  have hb2 : Below w0.heap.size w wn := grown_below (Below.refl _ _) h.ro hg (Nat.le_refl _) h.hb.size
  have hb3 : Below w0.heap.size wn wp := (Below.refl _ _).grown hp.only hb1.size (fun k hk => by injection hk with hk; omega)
  refine ⟨⟨⟨A0, n0, c0, k0, b1.grown hp.only (by intro e; injection e with e; omega), (hr.below hb2).below hb3⟩, b2.grown hp.only (by intro e; injection e with e; omega), below_only hb1 hp.only hb1.size (by omega), h.z0, h.zg⟩, hp.bk, ?_, fun d hd => ?_, h.lh, h.gg⟩
  · have := own_only ho hp.only (own_bk_ne ho b3 (by decide))
    rw [List.length_append, show cellsD (ks ++ [x]) = cellsD ks ++ dl x by simp [cellsD, dl]]
    exact this
  · rcases List.mem_append.1 hd with hd | hd
    · exact h.ko d hd
    · rw [List.mem_singleton] at hd; subst hd; exact hx
/-- Another block turns that lies behind the lock's. -/
theorem RcS.other8 (h : RcS w0 w z g4 g8 s L p ks) {q : Nat} (hg : w.grownBy wn (some q)) (hq : g8 < q) (hp : p.ownBlock ≠ some q) : RcS w0 wn z g4 g8 s L p ks := by
  have h1 := h.z0; have h2 := h.zg; have h3 := h.gg
  obtain ⟨A0, n0, c0, k0, hk, hr⟩ := h.rv
  exact ⟨⟨⟨A0, n0, c0, k0, hk.grown hg (by intro e; injection e with e; omega), hr.below (h.toRdM.bel hg (by omega))⟩, h.rs.grown hg (by intro e; injection e with e; omega), below_only h.hb hg h.hb.size (by omega), h.z0, h.zg⟩, h.lk.grown hg (by intro e; injection e with e; omega), own_only h.ro hg hp, h.ko, h.lh, h.gg⟩
end
end Go.Proofs.Ytbclfjdamklbpaa
