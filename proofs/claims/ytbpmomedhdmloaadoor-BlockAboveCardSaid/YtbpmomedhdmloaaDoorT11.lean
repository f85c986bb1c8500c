/- Trees in memory. -/
import Derived.Test.YtbpmomedhdmloaaDoorT10
namespace Go.Proofs.YtbpmomedhdmloaaDoor
open Go.RowKit

/-- Where a tree's parts lie: itself, its leaves (and their room), its levels. -/
structure Tr where
  g : Nat
  bl : Nat
  cl : Nat
  bn : Nat → Nat
  cn : Nat → Nat
def nodeV (T : Tr) (h m l : Nat) : Value := if l < m then .slice (some ⟨T.bn l, 0, none⟩) (2 ^ (h - l)) (T.cn l) else .slice none 0 0
def treeCells (T : Tr) (n h m : Nat) : List Value := .slice (some ⟨T.bl, 0, none⟩) n T.cl :: (List.range 13).map (nodeV T h m)
theorem treeCells_len (T : Tr) (n h m : Nat) : (treeCells T n h m).length = 14 := by simp [treeCells]
theorem treeCells_node (T : Tr) (n h m l : Nat) (hl : l < 13) : (treeCells T n h m)[1 + l]? = some (nodeV T h m l) := by
  rw [treeCells, Nat.add_comm, List.getElem?_cons_succ, List.getElem?_map, List.getElem?_range hl]; rfl
/-- Digests at the head of block b, which has room for c. -/
def RowAt (w : World) (b c : Nat) (ls : List (List Int)) : Prop := ∃ ys, Bk w b 28 ys ∧ ys.length = c * 8 ∧ ys.take (ls.length * 8) = cellsD ls
theorem RowAt.to {w w' : World} {b c : Nat} {ls : List (List Int)} (h : RowAt w b c ls) (hk : w'.heap[b]? = w.heap[b]?) : RowAt w' b c ls := by
  obtain ⟨ys, h1, h2⟩ := h
  exact ⟨ys, hk.trans h1, h2⟩
theorem RowAt.lt {w : World} {b c : Nat} {ls : List (List Int)} (h : RowAt w b c ls) : b < w.heap.size := by
  obtain ⟨ys, h1, h2⟩ := h
  exact Bk.lt h1
theorem RowAt.ne {w : World} {b c g : Nat} {ls : List (List Int)} {t : TypeId} {xs : List Value} (h : RowAt w b c ls) (hg : Bk w g t xs) (ht : t ≠ 28) : g ≠ b := by
  obtain ⟨ys, h1, h2⟩ := h
  exact Bk.ne_ hg h1 ht
theorem RowAt.frozen {w : World} {b c : Nat} {ls : List (List Int)} (h : RowAt w b c ls) (i : Nat) : w.frozen? ⟨b, i, none⟩ = false := by
  obtain ⟨ys, h1, h2⟩ := h
  exact Bk.frozen h1 i
theorem RowAt.sl {w : World} {b c : Nat} {ls : List (List Int)} (h : RowAt w b c ls) (ho : DsOk ls) (hn : ls.length ≤ 9223372036854775807) : Sl w w.heap.size 8 (some ⟨b, 0, none⟩) ls.length (cellsD ls) := by
  obtain ⟨ys, h1, h2, h3⟩ := h
  refine h1.sl (cellsD_len ho) hn fun j u hu => ?_
  rw [← h3, List.getElem?_take] at hu
  split at hu
  · exact hu
  · cases hu
theorem RowAt.all {w : World} {b : Nat} {ls : List (List Int)} (ho : DsOk ls) (h : Bk w b 28 (cellsD ls)) : RowAt w b ls.length ls :=
  ⟨_, h, cellsD_len ho, List.take_of_length_le (by rw [cellsD_len ho]; exact Nat.le_refl _)⟩
def LeavesAt (w : World) (T : Tr) (ls : List (List Int)) : Prop := RowAt w T.bl T.cl ls
structure TreeAt (w : World) (lo hi : Nat) (T : Tr) (h m : Nat) (ls : List (List Int)) (ns : Nat → List (List Int)) : Prop where
  row : Bk w T.g 125 (treeCells T ls.length h m)
  lok : DsOk ls
  lv : LeavesAt w T ls
  lc : 1 ≤ ls.length ∧ ls.length ≤ T.cl ∧ T.cl ≤ 9223372036854775807
  lh : ls.length ≤ 2 ^ h
  nv : ∀ l, l < m → RowAt w (T.bn l) (T.cn l) (ns l) ∧ (ns l).length = 2 ^ (h - l) ∧ DsOk (ns l)
  hm : m ≤ h + 1 ∧ h ≤ 12
  apl : ∀ l, l < m → T.bn l ≠ T.bl
  apn : ∀ l l', l < m → l' < m → T.bn l = T.bn l' → l = l'
  blo : lo ≤ T.g ∧ lo ≤ T.bl ∧ ∀ l, l < m → lo ≤ T.bn l
  bhi : T.g < hi ∧ T.bl < hi ∧ ∀ l, l < m → T.bn l < hi
  hih : hi ≤ w.heap.size

section
variable {w w' : World} {lo hi h m : Nat} {T : Tr} {ls : List (List Int)} {ns : Nat → List (List Int)}
theorem TreeAt.keep (t : TreeAt w lo hi T h m ls ns) (hs : w.heap.size ≤ w'.heap.size) (hk : ∀ b, lo ≤ b → b < hi → w'.heap[b]? = w.heap[b]?) : TreeAt w' lo hi T h m ls ns where
  row := (hk _ t.blo.1 t.bhi.1).trans t.row
  lok := t.lok
  lv := RowAt.to t.lv (hk _ t.blo.2.1 t.bhi.2.1)
  lc := t.lc
  lh := t.lh
  nv := fun l hl => ⟨(t.nv l hl).1.to (hk _ (t.blo.2.2 l hl) (t.bhi.2.2 l hl)), (t.nv l hl).2⟩
  hm := t.hm
  apl := t.apl
  apn := t.apn
  blo := t.blo
  bhi := t.bhi
  hih := Nat.le_trans t.hih hs
theorem TreeAt.later (t : TreeAt w lo hi T h m ls ns) (hb : Below w.heap.size w w') : TreeAt w' lo hi T h m ls ns :=
  t.keep hb.size fun b _ hbh => hb.block b (Nat.lt_of_lt_of_le hbh t.hih)
theorem TreeAt.drewN (t : TreeAt w lo hi T h m ls ns) (q : Nat) : TreeAt (w.drewN q) lo hi T h m ls ns := t.keep (Nat.le_refl _) fun _ _ _ => rfl
theorem TreeAt.lcell (t : TreeAt w lo hi T h m ls ns) : w.cell? ⟨T.g, 0, none⟩ = some (.slice (some ⟨T.bl, 0, none⟩) ls.length T.cl) := by rw [t.row.cell]; rfl
theorem TreeAt.ncell (t : TreeAt w lo hi T h m ls ns) {l : Nat} (hl : l < m) : w.cell? ⟨T.g, 1 + l, none⟩ = some (.slice (some ⟨T.bn l, 0, none⟩) (2 ^ (h - l)) (T.cn l)) := by
  have := t.hm
  rw [t.row.cell, treeCells_node _ _ _ _ _ (by omega), nodeV, if_pos hl]
theorem TreeAt.sl (t : TreeAt w lo hi T h m ls ns) : Sl w w.heap.size 8 (some ⟨T.bl, 0, none⟩) ls.length (cellsD ls) := RowAt.sl t.lv t.lok (by have := t.lc; omega)
theorem TreeAt.pow (t : TreeAt w lo hi T h m ls ns) (l : Nat) : 2 ^ (h - l) ≤ 4096 := by
  have := t.hm
  have h1 : 2 ^ (h - l) ≤ 2 ^ 12 := Nat.pow_le_pow_right (by omega) (by omega)
  omega
theorem TreeAt.nsl (t : TreeAt w lo hi T h m ls ns) {l : Nat} (hl : l < m) : Sl w w.heap.size 8 (some ⟨T.bn l, 0, none⟩) (2 ^ (h - l)) (cellsD (ns l)) := by
  obtain ⟨h1, h2, h3⟩ := t.nv l hl
  have := h1.sl h3 (by rw [h2]; have := t.pow l; omega)
  rw [h2] at this; exact this
theorem TreeAt.n12 (t : TreeAt w lo hi T h m ls ns) : ls.length ≤ 4096 := by
  have := t.pow 0
  have h2 := t.lh
  rw [Nat.sub_zero] at this; omega
end

set_option maxRecDepth 20000 in
/-- slices.Clone of digests. -/
theorem clone_dg (w : World) (A : Option Addr) (n c : Nat) (ls : List (List Int)) (ho : DsOk ls) (hs : Sl w w.heap.size 8 A n (cellsD ls)) (hn4 : n ≤ 1048576) :
    Calls Tryd.prog 81 #[.slice A n c] w fun e w' => (∃ v, e = .returned v ∧ w'.ownsRow w.heap.size 28 8 v n (cellsD ls)) ∧ Below w.heap.size w w' := by
  have hn := hs.le
  have hnil : ∀ (w : World) (a : Option Addr) (n c n' c' : Nat), (binOp .eql 54 (.slice a n c) (.slice none n' c')).run Tryd.prog w = .ok (.bool a.isNone) w := fun w a n c n' c' => Lib.run_eql_slice_nil w _ _ a n c n' c' Tryd.underlying54
  cases A with
  | none =>
    have hn0 : n = 0 := by
      rcases Nat.eq_zero_or_pos n with h | h
      · exact h
      · obtain ⟨_, e, _⟩ := hs.mem h; cases e
    subst hn0
    have hl := hs.dgs ho
    have HL := Lib.hid (List.eq_nil_of_length_eq_zero hl)
    clear hs ho hl
    go_enter Tryd.func81, Tryd.ntmps81
    go_wp2_with fail
    go_ret
    rw [HL.out]
    exact ⟨⟨_, rfl, World.ownsRow_nil _ _ _ _⟩, Below.refl _ _⟩
  | some ad =>
    obtain ⟨d0, hdi, hd0, hd1, hd2⟩ := info_parts Tryd.infoDg
    have HS := Lib.hid hs
    have H1 : Hid (∀ u ∈ cellsD ls, u.oneCell' = true) := by
      intro u hu
      simp only [cellsD, List.mem_flatMap, List.mem_map] at hu
      obtain ⟨_, _, _, _, rfl⟩ := hu; rfl
    clear hs ho
    go_enter Tryd.func81, Tryd.ntmps81
    go_wp2_with (at_builtin; refine wpList_app _ rfl (.tmp 5) (.tmp 6) 54 rfl w.heap.size 28 d0 (.agg (dgA zeroD)) 8 8 Tryd.underlying54 hdi hd0 hd1 hd2 rfl (by decide) _ _ _ rfl (own_empty w 28 8 w.heap.size (Nat.le_refl _)) _ _ n c (cellsD ls) rfl (HS.out.alloc (Nat.le_refl _) _) H1.out (by unfold maxLen; omega) (by omega) (by simp) ?_; intro v1 w3 hown1 hg1 hat1)
    rw [Nat.zero_add, List.nil_append] at hown1
    have hb3 := grown_below (below_new w (.cells #[] 28)) (own_empty w 28 8 w.heap.size (Nat.le_refl _)) hg1 (Nat.le_refl _) (by simp)
    have HO := Lib.hid hown1; have HB := Lib.hid hb3
    clear hown1 hg1 hat1 hb3
    go_wp2_with fail
    go_ret
    exact ⟨⟨_, rfl, HO.out⟩, HB.out⟩

theorem tLen_any (w : World) (lo hi : Nat) (T : Tr) (h m : Nat) (ls : List (List Int)) (ns : Nat → List (List Int)) (t : TreeAt w lo hi T h m ls ns) :
    Calls Tryd.prog 91 #[.pointer (some ⟨T.g, 0, none⟩)] w fun e w' => e = .returned (.int .i64 (ls.length : Int)) ∧ w = w' := by
  have hc := t.lcell
  obtain ⟨n, hn⟩ : ∃ n, ls.length = n := ⟨_, rfl⟩
  rw [hn] at hc ⊢
  clear t hn
  go_enter Tryd.func91, Tryd.ntmps91
  go_wp2_with fail
  go_ret
  exact ⟨rfl, rfl⟩
theorem tLen_nil (w : World) : Calls Tryd.prog 91 #[.pointer none] w fun e w' => e = .returned (.int .i64 0) ∧ w = w' := by
  go_enter Tryd.func91, Tryd.ntmps91
  go_wp2_with fail
  go_ret
  exact ⟨rfl, rfl⟩
def hasB (n : Nat) (i : Int) : Bool := decide (0 ≤ i ∧ i < n)
theorem has_any (w : World) (lo hi : Nat) (T : Tr) (h m : Nat) (ls : List (List Int)) (ns : Nat → List (List Int)) (t : TreeAt w lo hi T h m ls ns) (i : Int) :
    Calls Tryd.prog 86 #[.pointer (some ⟨T.g, 0, none⟩), .int .i64 i] w fun e w' => e = .returned (.bool (hasB ls.length i)) ∧ w = w' := by
  have HL := Lib.hid (tLen_any w lo hi T h m ls ns t)
  obtain ⟨n, hn⟩ : ∃ n, ls.length = n := ⟨_, rfl⟩
  rw [hn] at HL ⊢
  clear t hn
  by_cases h0 : i < 0
  · have HB := Lib.hid (show hasB n i = false by rw [hasB]; simp; omega)
    have h0' : decide (0 ≤ i) = false := by simp; omega
    go_enter Tryd.func86, Tryd.ntmps86
    go_wp2_with (go_at_call 91; refine HL.out.mono ?_; rintro e w2 ⟨rfl, rfl⟩)
    go_ret
    exact ⟨by rw [HB.out]; rfl, rfl⟩
  · have h0' : 0 ≤ i := by omega
    have HB := Lib.hid (show hasB n i = decide (i < n) by rw [hasB]; simp [h0'])
    go_enter Tryd.func86, Tryd.ntmps86
    go_wp2_with (go_at_call 91; refine HL.out.mono ?_; rintro e w2 ⟨rfl, rfl⟩)
    go_ret
    exact ⟨by rw [HB.out]; rfl, rfl⟩
theorem has_nil (w : World) (i : Int) :
    Calls Tryd.prog 86 #[.pointer none, .int .i64 i] w fun e w' => e = .returned (.bool false) ∧ w = w' := by
  by_cases h0 : i < 0
  · have h0' : decide (0 ≤ i) = false := by simp; omega
    go_enter Tryd.func86, Tryd.ntmps86
    go_wp2_with (go_at_call 91; refine (tLen_nil _).mono ?_; rintro e w2 ⟨rfl, rfl⟩)
    go_ret
    exact ⟨rfl, rfl⟩
  · have h0' : 0 ≤ i := by omega
    have h1 : decide (i < 0) = false := by simp; omega
    go_enter Tryd.func86, Tryd.ntmps86
    go_wp2_with (go_at_call 91; refine (tLen_nil _).mono ?_; rintro e w2 ⟨rfl, rfl⟩)
    go_ret
    exact ⟨rfl, rfl⟩
theorem hgt_any (w : World) (lo hi : Nat) (T : Tr) (h m : Nat) (ls : List (List Int)) (ns : Nat → List (List Int)) (t : TreeAt w lo hi T h m ls ns) :
    Calls Tryd.prog 84 #[.pointer (some ⟨T.g, 0, none⟩)] w fun e w' => e = .returned (.int .i64 (heightI ls.length : Int)) ∧ w = w' := by
  have hc := t.lcell
  have hn4 := t.n12
  have h1 := t.lc.1
  have HV := Lib.hid (show heightV ls.length = heightI ls.length by rw [heightV, if_neg (by omega)])
  obtain ⟨n, hn⟩ : ∃ n, ls.length = n := ⟨_, rfl⟩
  rw [hn] at hc HV ⊢
  clear t hn
  go_enter Tryd.func84, Tryd.ntmps84
  go_wp2_with (go_at_call 80; refine (theight_any n _).mono ?_; rintro e w2 ⟨rfl, rfl⟩)
  go_ret
  exact ⟨by rw [HV.out]; rfl, rfl⟩
end Go.Proofs.YtbpmomedhdmloaaDoor
