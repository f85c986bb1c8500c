/- Rows of digests. How many signed. Whose signature is missing; have all signed? Have all signed? -/
import Derived.Test.YtbpmomedhdmloaaDoorHA
import Derived.Test.YtbpmomedhdmloaaDoorNA
/-! Rows of digests. -/
namespace Go.Proofs.YtbpmomedhdmloaaDoor
open Go.RowKit

def cellsD (ls : List (List Int)) : List Value := ls.flatMap fun d => d.map (Value.int .u8)
def DsOk (ls : List (List Int)) : Prop := ∀ d ∈ ls, DgOk d
theorem cellsD_len {ls : List (List Int)} (h : DsOk ls) : (cellsD ls).length = ls.length * 8 := by
  induction ls with
  | nil => rfl
  | cons d ls ih =>
    have := ih (fun x hx => h x (by simp [hx]))
    have hd := (h d (by simp)).len
    unfold cellsD at this ⊢
    rw [List.flatMap_cons, List.length_append, this, List.length_map, hd, List.length_cons]; omega
theorem cellsD_get {ls : List (List Int)} (h : DsOk ls) {k : Nat} {d : List Int} (hk : ls[k]? = some d) {j : Nat} (hj : j < 8) : (cellsD ls)[k * 8 + j]? = (d.map (Value.int .u8))[j]? := by
  induction ls generalizing k with
  | nil => simp at hk
  | cons x ls ih =>
    have hx := (h x (by simp)).len
    unfold cellsD at ih ⊢
    cases k with
    | zero =>
      simp at hk; subst hk
      rw [List.flatMap_cons, List.getElem?_append_left (by rw [List.length_map, hx]; omega)]; simp
    | succ k =>
      rw [List.flatMap_cons, List.getElem?_append_right (by rw [List.length_map, hx]; omega), List.length_map, hx, show (k + 1) * 8 + j - 8 = k * 8 + j by omega]
      exact ih (fun y hy => h y (by simp [hy])) (by simpa using hk)
theorem Sl.dgs {w : World} {B n : Nat} {A : Option Addr} {ls : List (List Int)} (h : Sl w B 8 A n (cellsD ls)) (ho : DsOk ls) : ls.length = n := by
  have := h.len; rw [cellsD_len ho] at this; omega
theorem sl_dg {w : World} {B n b o : Nat} {ls : List (List Int)} (h : Sl w B 8 (some ⟨b, o, none⟩) n (cellsD ls)) (ho : DsOk ls) {k : Nat} {d : List Int} (hk : ls[k]? = some d) : w.rangeAt b (o + k * 8) (d.map (.int .u8)) := by
  intro j v hv
  have hkn : k < n := by rw [← h.dgs ho]; exact (List.getElem?_eq_some_iff.1 hk).1
  obtain ⟨ad, e, _, hc⟩ := h.mem (by omega)
  injection e with e; subst e
  have hj : j < 8 := by
    have := (List.getElem?_eq_some_iff.1 hv).1
    rw [List.length_map, (ho d (List.mem_of_getElem? hk)).len] at this; exact this
  have := hc (k * 8 + j) v (by rw [cellsD_get ho hk hj]; exact hv)
  rw [add_plain, ← Nat.add_assoc] at this
  exact this
end Go.Proofs.YtbpmomedhdmloaaDoor

/-! How many signed. -/
namespace Go.Proofs.YtbpmomedhdmloaaDoor
open Go.RowKit Go.Maps

theorem sl_dgl {w : World} {B n b o : Nat} {ls : List (List Int)} (h : Sl w B 8 (some ⟨b, o, none⟩) n (cellsD ls)) (ho : DsOk ls) {k : Nat} {d : List Int} (hk : ls[k]? = some d) : w.rangeAt b (o + k * 8) (dl d) := sl_dg h ho hk
def PcsBy (ps : List Pc) : Prop := ∀ p ∈ ps, ByOk p.bs
/-- How many of the keys signed. -/
def cntB (es : List Ent) (m : List Int) : List (List Int) → List Pc → Nat
  | k :: ks, p :: ps => cntB es m ks ps + (if verB es (k, m) p.bs then 1 else 0)
  | _, _ => 0
theorem cntB_le (es : List Ent) (m : List Int) : ∀ ks ps, cntB es m ks ps ≤ ks.length
  | [], _ => by simp [cntB]
  | k :: ks, [] => by simp [cntB]
  | k :: ks, p :: ps => by have := cntB_le es m ks ps; simp only [cntB, List.length_cons]; split <;> omega
theorem cntB_nil (es : List Ent) (m : List Int) (ks : List (List Int)) : cntB es m ks [] = 0 := by cases ks <;> rfl

end Go.Proofs.YtbpmomedhdmloaaDoor

/-! Whose signature is missing; have all signed? -/
namespace Go.Proofs.YtbpmomedhdmloaaDoor
open Go.RowKit Go.Maps

theorem bclone_any (w : World) (A : Option Addr) (n c : Nat) (bs : List Int) (hs : Sl w w.heap.size 1 A n (bs.map (.int .u8))) (hn4 : n ≤ 4294967296) :
    Calls Tryd.prog 63 #[.slice A n c] w (RetB w.heap.size bs w) := by
  have hnil : ∀ (w : World) (a : Option Addr) (n c n' c' : Nat), (binOp .eql 40 (.slice a n c) (.slice none n' c')).run Tryd.prog w = .ok (.bool a.isNone) w := fun w a n c n' c' => Lib.run_eql_slice_nil w _ _ a n c n' c' Tryd.underlying40
  have hlen := hs.length
  cases A with
  | none =>
    have hn0 : n = 0 := by
      rcases Nat.eq_zero_or_pos n with h | h
      · exact h
      · obtain ⟨_, e, _⟩ := hs.mem h; cases e
    subst hn0
    obtain rfl : bs = [] := List.eq_nil_of_length_eq_zero hlen
    clear hs hlen
    go_enter Tryd.func63, Tryd.ntmps63
    go_wp2_with fail
    go_ret
    exact ⟨_, rfl, World.ownsRow_nil _ _ _ _, Below.refl _ _⟩
  | some ad =>
    obtain ⟨i0, hi, hi0, hi1, hi2⟩ := info_parts Tryd.infoU8
    have HS := Lib.hid hs; have HL := Lib.hid hlen
    clear hs hlen
    go_enter Tryd.func63, Tryd.ntmps63
    go_wp2_with (at_builtin; refine wpList_app _ rfl (.tmp 5) (.tmp 6) 40 rfl w.heap.size 5 i0 (.int .u8 0) 1 1 Tryd.underlying40 hi hi0 hi1 hi2 rfl (by decide) _ _ _ rfl (own_empty w 5 1 w.heap.size (Nat.le_refl _)) _ _ n c (bs.map (.int .u8)) rfl (HS.out.alloc (Nat.le_refl _) _) (ints_one _ _) (by unfold maxLen; omega) (by omega) (by simp) ?_; intro v1 w3 hown1 hg1 hat1)
    rw [Nat.zero_add, List.nil_append] at hown1
    have hb3 := grown_below (below_new w (.cells #[] 5)) (own_empty w 5 1 w.heap.size (Nat.le_refl _)) hg1 (Nat.le_refl _) (by simp)
    have HO := Lib.hid hown1; have HB := Lib.hid hb3
    clear hown1 hg1 hat1 hb3
    go_wp2_with fail
    go_ret
    exact ⟨_, rfl, by rw [HL.out]; exact HO.out, HB.out⟩

/-- Is it missing? -/
def badB (es : List Ent) (m : List Int) (ks : List (List Int)) (ps : List Pc) (fs : List Bool) (i : Nat) : Bool :=
  !(fs.getD i false) && !(verB es (ks.getD i [], m) ((ps.map Pc.bs).getD i []))
def missB (es : List Ent) (m : List Int) (ks : List (List Int)) (ps : List Pc) (fs : List Bool) (n : Nat) : List Nat := (List.range n).filter (badB es m ks ps fs)
theorem missB_succ (es : List Ent) (m : List Int) (ks : List (List Int)) (ps : List Pc) (fs : List Bool) (n : Nat) :
    missB es m ks ps fs (n + 1) = missB es m ks ps fs n ++ (if badB es m ks ps fs n then [n] else []) := by
  unfold missB; rw [List.range_succ, List.filter_append]; simp only [List.filter_cons, List.filter_nil]
theorem missB_le (es : List Ent) (m : List Int) (ks : List (List Int)) (ps : List Pc) (fs : List Bool) (n : Nat) : (missB es m ks ps fs n).length ≤ n := by
  unfold missB; have := List.length_filter_le (badB es m ks ps fs) (List.range n); simpa using this
theorem badB_free {es : List Ent} {m : List Int} {ks : List (List Int)} {ps : List Pc} {fs : List Bool} {i : Nat} (h : fs.getD i false = true) : badB es m ks ps fs i = false := by unfold badB; rw [h]; rfl
theorem badB_not {es : List Ent} {m : List Int} {ks : List (List Int)} {ps : List Pc} {fs : List Bool} {i : Nat} {x : List Int} {p : Pc} (h : fs.getD i false = false) (hx : ks[i]? = some x) (hp : ps[i]? = some p) : badB es m ks ps fs i = !(verB es (x, m) p.bs) := by
  unfold badB; rw [h, List.getD_eq_getElem?_getD, List.getD_eq_getElem?_getD, hx, List.getElem?_map, hp]; rfl
theorem Tryd.infoInt : (Tryd.prog.info? 3).map (fun i => (i.zero, i.size, i.bytes)) = some (some (.int .i64 0), 1, 8) := by kernel_rfl

end Go.Proofs.YtbpmomedhdmloaaDoor

/-! Have all signed? -/
namespace Go.Proofs.YtbpmomedhdmloaaDoor
open Go.RowKit Go.Maps

/-- Have all signed that must? -/
def allB (es : List Ent) (m : List Int) (ks : List (List Int)) (ps : List Pc) (fs : List Bool) : Bool := (missB es m ks ps fs ks.length).isEmpty
def allE (es : List Ent) (m : List Int) (ks : List (List Int)) (ps : List Pc) (fs : List Bool) : Int := if allB es m ks ps fs then 0 else 16
end Go.Proofs.YtbpmomedhdmloaaDoor
