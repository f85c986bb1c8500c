/- Trees are made: the parts. -/
import Derived.Test.YtbpmomedhdmloaaDoorT12
namespace Go.Proofs.YtbpmomedhdmloaaDoor
open Go.RowKit

theorem cellsD_zeros (N : Nat) : cellsD (List.replicate N zeroD) = List.replicate (N * 8) (Value.int .u8 0) := by
  induction N with
  | zero => rfl
  | succ N ih =>
    rw [List.replicate_succ, cellsD_cons, ih, show zeroD.map (Value.int .u8) = List.replicate 8 (Value.int .u8 0) from rfl, List.replicate_append_replicate]
    congr 1; omega
theorem made8 (N : Nat) : (madeCells #[.int .u8 0, .int .u8 0, .int .u8 0, .int .u8 0, .int .u8 0, .int .u8 0, .int .u8 0, .int .u8 0] (N * 8)).toList = cellsD (List.replicate N zeroD) := by
  rw [cellsD_zeros]
  unfold madeCells
  rw [Array.toList_map, Array.toList_range]
  refine List.ext_getElem (by simp) fun i h1 h2 => ?_
  simp only [List.getElem_map, List.getElem_replicate, List.getElem_range]
  have h8 : i % 8 < 8 := Nat.mod_lt _ (by omega)
  show (#[Value.int .u8 0, .int .u8 0, .int .u8 0, .int .u8 0, .int .u8 0, .int .u8 0, .int .u8 0, .int .u8 0] : Array Value)[i % 8]! = _
  generalize i % 8 = r at h8
  match r, h8 with
  | 0, _ => rfl
  | 1, _ => rfl
  | 2, _ => rfl
  | 3, _ => rfl
  | 4, _ => rfl
  | 5, _ => rfl
  | 6, _ => rfl
  | 7, _ => rfl
theorem zeros_ok (N : Nat) : DsOk (List.replicate N zeroD) := fun d hd => by rw [List.eq_of_mem_replicate hd]; exact zeroD_ok

def Tr.more (T : Tr) (m b c : Nat) : Tr := { T with bn := fun j => if j = m then b else T.bn j, cn := fun j => if j = m then c else T.cn j }
theorem more_at (T : Tr) (m b c : Nat) : (T.more m b c).bn m = b := by simp [Tr.more]
theorem more_far (T : Tr) {m j : Nat} (b c : Nat) (h : j ≠ m) : (T.more m b c).bn j = T.bn j := by simp [Tr.more, h]
theorem more_atc (T : Tr) (m b c : Nat) : (T.more m b c).cn m = c := by simp [Tr.more]
theorem more_farc (T : Tr) {m j : Nat} (b c : Nat) (h : j ≠ m) : (T.more m b c).cn j = T.cn j := by simp [Tr.more, h]
theorem tree_more (T : Tr) (n h m b c : Nat) (hm : m < 13) : (treeCells T n h m).set (1 + m) (.slice (some ⟨b, 0, none⟩) (2 ^ (h - m)) c) = treeCells (T.more m b c) n h (m + 1) := by
  rw [treeCells, Nat.add_comm 1 m, List.set_cons_succ, treeCells]
  congr 1
  refine List.ext_getElem (by simp) fun i h1 h2 => ?_
  simp only [List.length_set, List.length_map, List.length_range] at h1
  rw [List.getElem_set]
  simp only [List.getElem_map, List.getElem_range]
  by_cases hi : m = i
  · subst hi
    rw [if_pos rfl, nodeV, if_pos (by omega), more_at, more_atc]
  · rw [if_neg hi, nodeV, nodeV]
    by_cases hlt : i < m
    · rw [if_pos hlt, if_pos (by omega), more_far _ _ _ (by omega), more_farc _ _ _ (by omega)]
    · rw [if_neg hlt, if_neg (by omega)]
/-- A level is made. -/
theorem TreeAt.grow {w w' : World} {lo hi h m : Nat} {T : Tr} {ls : List (List Int)} {ns : Nat → List (List Int)} (t : TreeAt w lo hi T h m ls ns) (hm : m ≤ h) (b c : Nat) (hbh : hi ≤ b) (x : List (List Int)) (hx : DsOk x) (hxl : x.length = 2 ^ (h - m))
    (hrow : Bk w' T.g 125 ((treeCells T ls.length h m).set (1 + m) (.slice (some ⟨b, 0, none⟩) (2 ^ (h - m)) c))) (hb : RowAt w' b c x)
    (hk : ∀ j, j < w.heap.size → j ≠ T.g → w'.heap[j]? = w.heap[j]?) : TreeAt w' lo (b + 1) (T.more m b c) h (m + 1) ls (updN ns m x) where
  row := by
    have := t.hm
    rw [tree_more _ _ _ _ _ _ (by omega)] at hrow; exact hrow
  lok := t.lok
  lv := RowAt.to t.lv (hk _ (RowAt.lt t.lv) (RowAt.ne t.lv t.row (by decide)).symm)
  lc := t.lc
  lh := t.lh
  nv := fun j hj => by
    by_cases hjm : j = m
    · subst hjm
      rw [updN_at, more_at, more_atc]
      exact ⟨hb, hxl, hx⟩
    · rw [updN_far _ _ hjm, more_far _ _ _ hjm, more_farc _ _ _ hjm]
      have h1 := (t.nv j (by omega)).1
      exact ⟨h1.to (hk _ h1.lt (h1.ne t.row (by decide)).symm), (t.nv j (by omega)).2⟩
  hm := ⟨by omega, t.hm.2⟩
  apl := fun j hj => by
    have h0 := t.bhi.2.1
    by_cases hjm : j = m
    · subst hjm; rw [more_at]; show b ≠ T.bl; omega
    · rw [more_far _ _ _ hjm]; exact t.apl j (by omega)
  apn := fun j j' hj hj' he => by
    by_cases hjm : j = m <;> by_cases hjm' : j' = m
    · omega
    · subst hjm; rw [more_at, more_far _ _ _ hjm'] at he
      have := t.bhi.2.2 j' (by omega); omega
    · subst hjm'; rw [more_at, more_far _ _ _ hjm] at he
      have := t.bhi.2.2 j (by omega); omega
    · rw [more_far _ _ _ hjm, more_far _ _ _ hjm'] at he; exact t.apn j j' (by omega) (by omega) he
  blo := ⟨t.blo.1, t.blo.2.1, fun j hj => by
    have h0 := t.blo.1; have h1 := t.bhi.1
    by_cases hjm : j = m
    · subst hjm; rw [more_at]; omega
    · rw [more_far _ _ _ hjm]; exact t.blo.2.2 j (by omega)⟩
  bhi := ⟨by have := t.bhi.1; show T.g < _; omega, by have := t.bhi.2.1; show T.bl < _; omega, fun j hj => by
    by_cases hjm : j = m
    · subst hjm; rw [more_at]; omega
    · rw [more_far _ _ _ hjm]; have := t.bhi.2.2 j (by omega); omega⟩
  hih := hb.lt

def levelI (ls : List (List Int)) (h l : Nat) : List (List Int) := (List.range (2 ^ (h - l))).map (nodeI ls l)
theorem levelI_len (ls : List (List Int)) (h l : Nat) : (levelI ls h l).length = 2 ^ (h - l) := by simp [levelI]
theorem levelI_get (ls : List (List Int)) (h l k : Nat) (hk : k < 2 ^ (h - l)) : (levelI ls h l)[k]? = some (nodeI ls l k) := by
  rw [levelI, List.getElem?_map, List.getElem?_range hk]; rfl
theorem levelI_ok (ls : List (List Int)) (h l : Nat) : DsOk (levelI ls h l) := fun d hd => by
  simp only [levelI, List.mem_map] at hd
  obtain ⟨k, _, rfl⟩ := hd
  exact nodeI_ok _ _ _
def partI (ls : List (List Int)) (h l k : Nat) : List (List Int) := (levelI ls h l).take k ++ List.replicate (2 ^ (h - l) - k) zeroD
theorem partI_zero (ls : List (List Int)) (h l : Nat) : partI ls h l 0 = List.replicate (2 ^ (h - l)) zeroD := by simp [partI]
theorem partI_all (ls : List (List Int)) (h l : Nat) : partI ls h l (2 ^ (h - l)) = levelI ls h l := by
  rw [partI, List.take_of_length_le (by rw [levelI_len]; exact Nat.le_refl _)]; simp
theorem partI_len (ls : List (List Int)) (h l k : Nat) (hk : k ≤ 2 ^ (h - l)) : (partI ls h l k).length = 2 ^ (h - l) := by
  rw [partI, List.length_append, List.length_take, levelI_len, List.length_replicate]; omega
theorem partI_ok (ls : List (List Int)) (h l k : Nat) : DsOk (partI ls h l k) := fun d hd => by
  rw [partI, List.mem_append] at hd
  rcases hd with hd | hd
  · exact levelI_ok _ _ _ d (List.mem_of_mem_take hd)
  · exact zeros_ok _ d hd
theorem partI_set (ls : List (List Int)) (h l k : Nat) (hk : k < 2 ^ (h - l)) : (partI ls h l k).set k (nodeI ls l k) = partI ls h l (k + 1) := by
  have hl : ((levelI ls h l).take k).length = k := by rw [List.length_take, levelI_len]; omega
  have e3 : 2 ^ (h - l) - k = (2 ^ (h - l) - (k + 1)) + 1 := by omega
  rw [partI, List.set_append, if_neg (by rw [hl]; omega), hl, Nat.sub_self, e3, List.replicate_succ, List.set_cons_zero, partI, take_snoc (levelI_get ls h l k hk), List.append_assoc]
  rfl
end Go.Proofs.YtbpmomedhdmloaaDoor
