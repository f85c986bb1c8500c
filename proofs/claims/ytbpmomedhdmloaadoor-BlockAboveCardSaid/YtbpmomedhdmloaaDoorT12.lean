/- A tree's node is made of the two below it. -/
import Derived.Test.YtbpmomedhdmloaaDoorT11
namespace Go.Proofs.YtbpmomedhdmloaaDoor
open Go.RowKit

theorem set_app {α : Type} (l1 l2 : List α) (q j : Nat) (v : α) (hq : q = l1.length + j) : (l1 ++ l2).set q v = l1 ++ l2.set j v := by
  subst hq; simp [List.set_append]
theorem cellsD_cons (d : List Int) (ls : List (List Int)) : cellsD (d :: ls) = d.map (Value.int .u8) ++ cellsD ls := by simp [cellsD]
theorem cellsD_put {ls : List (List Int)} (h : DsOk ls) {k : Nat} (hk : k < ls.length) (o0 o1 o2 o3 o4 o5 o6 o7 : Int) : (((((((((cellsD ls).set (k * 8) (.int .u8 o0)).set (k * 8 + 1) (.int .u8 o1)).set (k * 8 + 2) (.int .u8 o2)).set (k * 8 + 3) (.int .u8 o3)).set (k * 8 + 4) (.int .u8 o4)).set (k * 8 + 5) (.int .u8 o5)).set (k * 8 + 6) (.int .u8 o6)).set (k * 8 + 7) (.int .u8 o7)) = cellsD (ls.set k [o0, o1, o2, o3, o4, o5, o6, o7]) := by
  induction ls generalizing k with
  | nil => simp at hk
  | cons x ls ih =>
    have hx := (h x (by simp)).len
    cases k with
    | zero =>
      obtain ⟨x0, x1, x2, x3, x4, x5, x6, x7, rfl⟩ := list8 x hx
      rw [cellsD_cons, List.set_cons_zero, cellsD_cons]; rfl
    | succ k =>
      have hl : (x.map (Value.int .u8)).length = 8 := by rw [List.length_map, hx]
      rw [cellsD_cons, List.set_cons_succ, cellsD_cons, ← ih (fun y hy => h y (by simp [hy])) (by simpa using hk)]
      rw [set_app _ _ _ (k * 8) _ (by rw [hl]; omega), set_app _ _ _ (k * 8 + 1) _ (by rw [hl]; omega), set_app _ _ _ (k * 8 + 2) _ (by rw [hl]; omega), set_app _ _ _ (k * 8 + 3) _ (by rw [hl]; omega), set_app _ _ _ (k * 8 + 4) _ (by rw [hl]; omega), set_app _ _ _ (k * 8 + 5) _ (by rw [hl]; omega), set_app _ _ _ (k * 8 + 6) _ (by rw [hl]; omega), set_app _ _ _ (k * 8 + 7) _ (by rw [hl]; omega)]
theorem row_put {w' : World} {b c : Nat} {ls : List (List Int)} {ys : List Value} (hl : ys.length = c * 8) (ht : ys.take (ls.length * 8) = cellsD ls) (ho : DsOk ls) {k : Nat} (hk : k < ls.length) (o0 o1 o2 o3 o4 o5 o6 o7 : Int)
    (hb : Bk w' b 28 ((((((((ys.set (k * 8) (.int .u8 o0)).set (k * 8 + 1) (.int .u8 o1)).set (k * 8 + 2) (.int .u8 o2)).set (k * 8 + 3) (.int .u8 o3)).set (k * 8 + 4) (.int .u8 o4)).set (k * 8 + 5) (.int .u8 o5)).set (k * 8 + 6) (.int .u8 o6)).set (k * 8 + 7) (.int .u8 o7))) :
    RowAt w' b c (ls.set k [o0, o1, o2, o3, o4, o5, o6, o7]) := by
  refine ⟨_, hb, by simpa using hl, ?_⟩
  rw [List.length_set, ← cellsD_put ho hk, ← ht]
  simp only [List.take_set]
theorem Bk.put8at {w : World} {g : Nat} {t : TypeId} {xs : List Value} (h : Bk w g t xs) (q : Nat) (o0 o1 o2 o3 o4 o5 o6 o7 : Int) :
    Bk ((((((((w.setCell ⟨g, q, none⟩ (.int .u8 o0)).setCell ⟨g, q + 1, none⟩ (.int .u8 o1)).setCell ⟨g, q + 2, none⟩ (.int .u8 o2)).setCell ⟨g, q + 3, none⟩ (.int .u8 o3)).setCell ⟨g, q + 4, none⟩ (.int .u8 o4)).setCell ⟨g, q + 5, none⟩ (.int .u8 o5)).setCell ⟨g, q + 6, none⟩ (.int .u8 o6)).setCell ⟨g, q + 7, none⟩ (.int .u8 o7)) g t ((((((((xs.set (q) (.int .u8 o0)).set (q + 1) (.int .u8 o1)).set (q + 2) (.int .u8 o2)).set (q + 3) (.int .u8 o3)).set (q + 4) (.int .u8 o4)).set (q + 5) (.int .u8 o5)).set (q + 6) (.int .u8 o6)).set (q + 7) (.int .u8 o7)) :=
  Bk.set_ (Bk.set_ (Bk.set_ (Bk.set_ (Bk.set_ (Bk.set_ (Bk.set_ (Bk.set_ h _ _) _ _) _ _) _ _) _ _) _ _) _ _) _ _
theorem only_put8at {g : Nat} {w0 w : World} (h : w0.grownBy w (some g)) (q : Nat) (o0 o1 o2 o3 o4 o5 o6 o7 : Int) :
    w0.grownBy ((((((((w.setCell ⟨g, q, none⟩ (.int .u8 o0)).setCell ⟨g, q + 1, none⟩ (.int .u8 o1)).setCell ⟨g, q + 2, none⟩ (.int .u8 o2)).setCell ⟨g, q + 3, none⟩ (.int .u8 o3)).setCell ⟨g, q + 4, none⟩ (.int .u8 o4)).setCell ⟨g, q + 5, none⟩ (.int .u8 o5)).setCell ⟨g, q + 6, none⟩ (.int .u8 o6)).setCell ⟨g, q + 7, none⟩ (.int .u8 o7)) (some g) :=
  only_set (only_set (only_set (only_set (only_set (only_set (only_set (only_set h _ _) _ _) _ _) _ _) _ _) _ _) _ _) _ _
theorem range_only {w w' : World} {b q g : Nat} {cs : List Value} (h : w.rangeAt b q cs) (hg : w.grownBy w' (some g)) (hb : b < w.heap.size) (hne : b ≠ g) : w'.rangeAt b q cs := fun j v hv => by
  rw [World.cell?_of_block (a := ⟨b, q + j, none⟩) (hg.block b hb (by intro e; injection e with e; exact hne e))]
  exact h j v hv
theorem range_below {w w' : World} {b q : Nat} {cs : List Value} (h : w.rangeAt b q cs) (hg : Below w.heap.size w w') (hb : b < w.heap.size) : w'.rangeAt b q cs := fun j v hv => by
  rw [World.cell?_of_block (a := ⟨b, q + j, none⟩) (hg.block b hb)]
  exact h j v hv
theorem two8 (w : World) (a b : List Int) (ha : DgOk a) (hb : DgOk b) :
    Calls Tryd.prog 87 #[.agg (dgA a), .agg (dgA b)] w fun e w' => ∃ o0 o1 o2 o3 o4 o5 o6 o7 : Int, e = .returned (.agg #[.int .u8 o0, .int .u8 o1, .int .u8 o2, .int .u8 o3, .int .u8 o4, .int .u8 o5, .int .u8 o6, .int .u8 o7]) ∧ Hid (twoI a b = [o0, o1, o2, o3, o4, o5, o6, o7]) ∧ Below w.heap.size w w' := by
  obtain ⟨o0, o1, o2, o3, o4, o5, o6, o7, ho⟩ := list8 (twoI a b) (twoI_ok _ _).len
  refine (two_any w a b ha hb).mono ?_
  rintro e w' ⟨rfl, hb⟩
  exact ⟨o0, o1, o2, o3, o4, o5, o6, o7, by rw [ho]; rfl, ho, hb⟩

theorem join_cells {w w' : World} {g L b bq N C q q' : Nat} {a0 a1 a2 a3 a4 a5 a6 a7 b0 b1 b2 b3 b4 b5 b6 b7 : Int} (hc : w.cell? ⟨g, 1 + L, none⟩ = some (.slice (some ⟨bq, 0, none⟩) N C)) (hx : w.rangeAt b q ([a0, a1, a2, a3, a4, a5, a6, a7].map (Value.int .u8))) (hy : w.rangeAt b q' ([b0, b1, b2, b3, b4, b5, b6, b7].map (Value.int .u8))) (hb : Below w.heap.size w w') (hg : g < w.heap.size) (hbl : b < w.heap.size) :
    w'.cell? ⟨g, 1 + L, none⟩ = some (.slice (some ⟨bq, 0, none⟩) N C) ∧ w'.cell? ⟨b, q, none⟩ = some (.int .u8 a0) ∧ w'.cell? ⟨b, q + 1, none⟩ = some (.int .u8 a1) ∧ w'.cell? ⟨b, q + 2, none⟩ = some (.int .u8 a2) ∧ w'.cell? ⟨b, q + 3, none⟩ = some (.int .u8 a3) ∧ w'.cell? ⟨b, q + 4, none⟩ = some (.int .u8 a4) ∧ w'.cell? ⟨b, q + 5, none⟩ = some (.int .u8 a5) ∧ w'.cell? ⟨b, q + 6, none⟩ = some (.int .u8 a6) ∧ w'.cell? ⟨b, q + 7, none⟩ = some (.int .u8 a7) ∧ w'.cell? ⟨b, q', none⟩ = some (.int .u8 b0) ∧ w'.cell? ⟨b, q' + 1, none⟩ = some (.int .u8 b1) ∧ w'.cell? ⟨b, q' + 2, none⟩ = some (.int .u8 b2) ∧ w'.cell? ⟨b, q' + 3, none⟩ = some (.int .u8 b3) ∧ w'.cell? ⟨b, q' + 4, none⟩ = some (.int .u8 b4) ∧ w'.cell? ⟨b, q' + 5, none⟩ = some (.int .u8 b5) ∧ w'.cell? ⟨b, q' + 6, none⟩ = some (.int .u8 b6) ∧ w'.cell? ⟨b, q' + 7, none⟩ = some (.int .u8 b7) := by
  obtain ⟨c0, c1, c2, c3, c4, c5, c6, c7⟩ := range8 (range_below hx hb hbl)
  exact ⟨(hb.cell (p := ⟨g, 1 + L, none⟩) hg).trans hc, c0, c1, c2, c3, c4, c5, c6, c7, range8 (range_below hy hb hbl)⟩
theorem join_cells_put {w w' : World} {g L b bq N C q q' g2 : Nat} {a0 a1 a2 a3 a4 a5 a6 a7 b0 b1 b2 b3 b4 b5 b6 b7 : Int} (hc : w.cell? ⟨g, 1 + L, none⟩ = some (.slice (some ⟨bq, 0, none⟩) N C)) (hx : w.rangeAt b q ([a0, a1, a2, a3, a4, a5, a6, a7].map (Value.int .u8))) (hy : w.rangeAt b q' ([b0, b1, b2, b3, b4, b5, b6, b7].map (Value.int .u8))) (hb : w.grownBy w' (some g2)) (hg : g < w.heap.size) (hbl : b < w.heap.size) (hn1 : g ≠ g2) (hn2 : b ≠ g2) :
    w'.cell? ⟨g, 1 + L, none⟩ = some (.slice (some ⟨bq, 0, none⟩) N C) ∧ w'.cell? ⟨b, q, none⟩ = some (.int .u8 a0) ∧ w'.cell? ⟨b, q + 1, none⟩ = some (.int .u8 a1) ∧ w'.cell? ⟨b, q + 2, none⟩ = some (.int .u8 a2) ∧ w'.cell? ⟨b, q + 3, none⟩ = some (.int .u8 a3) ∧ w'.cell? ⟨b, q + 4, none⟩ = some (.int .u8 a4) ∧ w'.cell? ⟨b, q + 5, none⟩ = some (.int .u8 a5) ∧ w'.cell? ⟨b, q + 6, none⟩ = some (.int .u8 a6) ∧ w'.cell? ⟨b, q + 7, none⟩ = some (.int .u8 a7) ∧ w'.cell? ⟨b, q', none⟩ = some (.int .u8 b0) ∧ w'.cell? ⟨b, q' + 1, none⟩ = some (.int .u8 b1) ∧ w'.cell? ⟨b, q' + 2, none⟩ = some (.int .u8 b2) ∧ w'.cell? ⟨b, q' + 3, none⟩ = some (.int .u8 b3) ∧ w'.cell? ⟨b, q' + 4, none⟩ = some (.int .u8 b4) ∧ w'.cell? ⟨b, q' + 5, none⟩ = some (.int .u8 b5) ∧ w'.cell? ⟨b, q' + 6, none⟩ = some (.int .u8 b6) ∧ w'.cell? ⟨b, q' + 7, none⟩ = some (.int .u8 b7) := by
  obtain ⟨c0, c1, c2, c3, c4, c5, c6, c7⟩ := range8 (range_only hx hb hbl hn2)
  exact ⟨(World.cell?_of_block (a := ⟨g, 1 + L, none⟩) (hb.block g hg (by intro e; injection e with e; exact hn1 e))).trans hc, c0, c1, c2, c3, c4, c5, c6, c7, range8 (range_only hy hb hbl hn2)⟩

def updN (ns : Nat → List (List Int)) (l : Nat) (x : List (List Int)) : Nat → List (List Int) := fun j => if j = l then x else ns j
theorem updN_at (ns : Nat → List (List Int)) (l : Nat) (x : List (List Int)) : updN ns l x l = x := by simp [updN]
theorem updN_far (ns : Nat → List (List Int)) {l j : Nat} (x : List (List Int)) (h : j ≠ l) : updN ns l x j = ns j := by simp [updN, h]
theorem set_ok {ls : List (List Int)} (h : DsOk ls) (k : Nat) {d : List Int} (hd : DgOk d) : DsOk (ls.set k d) := fun x hx => by
  rcases List.mem_or_eq_of_mem_set hx with h' | h'
  · exact h x h'
  · exact h' ▸ hd
/-- One level's block has turned. -/
theorem TreeAt.level {w w' : World} {lo hi h m : Nat} {T : Tr} {ls : List (List Int)} {ns : Nat → List (List Int)} (t : TreeAt w lo hi T h m ls ns) {l : Nat} (hl : l < m) (hg : w.grownBy w' (some (T.bn l))) (x : List (List Int)) (hx : DsOk x) (hxl : x.length = 2 ^ (h - l)) (hb : RowAt w' (T.bn l) (T.cn l) x) :
    TreeAt w' lo hi T h m ls (updN ns l x) where
  row := Bk.grown t.row hg (fun e => (by
    injection e with e
    exact (t.nv l hl).1.ne t.row (by decide) e))
  lok := t.lok
  lv := RowAt.to t.lv (hg.block _ (RowAt.lt t.lv) (fun e => by injection e with e; exact t.apl l hl e.symm))
  lc := t.lc
  lh := t.lh
  nv := fun j hj => by
    by_cases hjl : j = l
    · subst hjl; rw [updN_at]; exact ⟨hb, hxl, hx⟩
    · rw [updN_far _ _ hjl]
      exact ⟨(t.nv j hj).1.to (hg.block _ (t.nv j hj).1.lt (fun e => by injection e with e; exact hjl (t.apn j l hj hl e))), (t.nv j hj).2⟩
  hm := t.hm
  apl := t.apl
  apn := t.apn
  blo := t.blo
  bhi := t.bhi
  hih := Nat.le_trans t.hih hg.size

set_option maxRecDepth 20000 in
set_option maxHeartbeats 1000000 in
theorem tjoin_any (w : World) (lo hi : Nat) (T : Tr) (h m : Nat) (ls : List (List Int)) (ns : Nat → List (List Int)) (t : TreeAt w lo hi T h m ls ns) (l k : Nat) (x y : List Int)
    (hl : l + 1 < m) (hk : k < 2 ^ (h - (l + 1))) (hx : (ns l)[2 * k]? = some x) (hy : (ns l)[2 * k + 1]? = some y) :
    Calls Tryd.prog 83 #[.pointer (some ⟨T.g, 0, none⟩), .int .i64 ((l + 1 : Nat) : Int), .int .i64 (k : Int)] w fun e w' => e = .returned (.tuple #[]) ∧ TreeAt w' lo hi T h m ls (updN ns (l + 1) ((ns (l + 1)).set k (twoI x y))) ∧ w.grownBy w' (some (T.bn (l + 1))) := by
  have hp1 := t.pow l
  have hp2 := t.pow (l + 1)
  have h12 := t.hm
  obtain ⟨⟨ys1, hb1, _, _⟩, hn1, ho1⟩ := t.nv l (by omega)
  obtain ⟨⟨ys, hb2, hyl', hyt⟩, hn2, ho2⟩ := t.nv (l + 1) hl
  have hxo := ho1 x (List.mem_of_getElem? hx)
  have hyo := ho1 y (List.mem_of_getElem? hy)
  have hxl : 2 * k < 2 ^ (h - l) := by rw [← hn1]; exact (List.getElem?_eq_some_iff.1 hx).1
  have hyl : 2 * k + 1 < 2 ^ (h - l) := by rw [← hn1]; exact (List.getElem?_eq_some_iff.1 hy).1
  obtain ⟨zz, hz⟩ : ∃ zz, (ns (l + 1))[k]? = some zz := ⟨(ns (l + 1))[k]'(by rw [hn2]; exact hk), List.getElem?_eq_getElem _⟩
  have hzo := ho2 zz (List.mem_of_getElem? hz)
  have hrx := sl_dg (t.nsl (l := l) (by omega)) ho1 hx
  have hry := sl_dg (t.nsl (l := l) (by omega)) ho1 hy
  have hrz := sl_dg (t.nsl (l := l + 1) hl) ho2 hz
  rw [Nat.zero_add] at hrx hry hrz
  have hc1 := t.ncell (l := l) (by omega)
  have hc2 := t.ncell (l := l + 1) hl
  have hgl : T.g < w.heap.size := Bk.lt t.row
  have hbl1 : T.bn l < w.heap.size := Bk.lt hb1
  have hbl2 : T.bn (l + 1) < w.heap.size := Bk.lt hb2
  have hne1 : T.bn l ≠ T.bn (l + 1) := fun e => by have := t.apn l (l + 1) (by omega) hl e; omega
  have hne2 : T.g ≠ T.bn (l + 1) := Bk.ne_ t.row hb2 (by decide)
  have HT := Lib.hid t
  have hfz := Bk.frozen hb2
  obtain ⟨a0, a1, a2, a3, a4, a5, a6, a7, rfl⟩ := list8 x hxo.len
  obtain ⟨b0, b1, b2, b3, b4, b5, b6, b7, rfl⟩ := list8 y hyo.len
  obtain ⟨z0, z1, z2, z3, z4, z5, z6, z7, rfl⟩ := list8 zz hzo.len
  have HX := Lib.hid hxo; have HY := Lib.hid hyo
  have HB2 := Lib.hid hb2
  have HYL := Lib.hid (show ys.length = T.cn (l + 1) * 8 ∧ ys.take ((ns (l + 1)).length * 8) = cellsD (ns (l + 1)) from ⟨hyl', hyt⟩)
  have hP : ∀ W, (∃ q, W = w.drewN q) → True := fun _ _ => trivial
  obtain ⟨L, hL⟩ : ∃ L, l + 1 = L := ⟨_, rfl⟩
  obtain ⟨k2, hk2⟩ : ∃ k2, 2 * k = k2 := ⟨_, rfl⟩
  obtain ⟨k3, hk3⟩ : ∃ k3, 2 * k + 1 = k3 := ⟨_, rfl⟩
  obtain ⟨N1, hN1⟩ : ∃ N1, 2 ^ (h - l) = N1 := ⟨_, rfl⟩
  obtain ⟨N2, hN2⟩ : ∃ N2, 2 ^ (h - L) = N2 := ⟨_, rfl⟩
  obtain ⟨C1, hC1⟩ : ∃ C1, T.cn l = C1 := ⟨_, rfl⟩
  rw [hL] at HYL
  rw [hC1] at hc1
  rw [hL] at hc2 hrz hbl2 hne1 hne2 hfz HB2 hn2 ho2 hl hk hp2
  rw [hk2] at hrx hxl
  rw [hk3] at hry hyl
  rw [hN1] at hc1 hxl hyl hp1
  rw [hN2] at hc2 hk hp2
  obtain ⟨C2, hC2⟩ : ∃ C2, T.cn L = C2 := ⟨_, rfl⟩
  rw [hC2] at hc2
  obtain ⟨b1', hb1'⟩ : ∃ b1', T.bn l = b1' := ⟨_, rfl⟩
  obtain ⟨b2', hb2'⟩ : ∃ b2', T.bn L = b2' := ⟨_, rfl⟩
  obtain ⟨g, hg⟩ : ∃ g, T.g = g := ⟨_, rfl⟩
  rw [hb1'] at hrx hry hc1 hbl1 hne1
  rw [hb2'] at hrz hc2 hbl2 hne1 hne2 hfz HB2
  rw [hg] at hc1 hc2 hgl hne2
  have HRX := Lib.hid hrx; have HRY := Lib.hid hry; have HRZ := Lib.hid hrz
  have HNS : Hid (DsOk (ns L) ∧ (ns L).length = 2 ^ (h - L) ∧ L < m ∧ (ns L).length = N2) := ⟨ho2, hn2, hl, by rw [hn2, hN2]⟩
  have e1 : ((l + 1 : Nat) : Int) = (L : Int) := by omega
  have e2 : (L : Int) - 1 = (l : Int) := by omega
  have e3 : 2 * (k : Int) = (k2 : Int) := by omega
  have e4 : (k2 : Int) + 1 = (k3 : Int) := by omega
  have i1 : (0 : Int) ≤ (l : Int) := by omega
  have i2 : (l : Int) < 13 := by omega
  have i3 : (0 : Int) ≤ (L : Int) := by omega
  have i4 : (L : Int) < 13 := by omega
  have i5 : (0 : Int) ≤ (k2 : Int) := by omega
  have i6 : (k2 : Int) < N1 := by omega
  have i7 : (0 : Int) ≤ (k3 : Int) := by omega
  have i8 : (k3 : Int) < N1 := by omega
  have i9 : (0 : Int) ≤ (k : Int) := by omega
  have i10 : (k : Int) < N2 := by omega
  have w1 : IntKind.i64.wrap ((L : Int) - 1) = l := by rw [e2]; exact IntWalk.i64_in _ (by omega)
  have w2 : IntKind.i64.wrap (2 * (k : Int)) = k2 := by rw [e3]; exact IntWalk.i64_in _ (by omega)
  have w3 : IntKind.i64.wrap ((k2 : Int) + 1) = k3 := by rw [e4]; exact IntWalk.i64_in _ (by omega)
  have w4 : IntKind.i64.wrap (k2 : Int) = k2 := IntWalk.i64_in _ (by omega)
  have w5 : IntKind.i64.wrap (k3 : Int) = k3 := IntWalk.i64_in _ (by omega)
  have HL := Lib.hid hL; have HB1' := Lib.hid hb1'; have HB2' := Lib.hid hb2'; have HGG := Lib.hid hg
  have HC2 := Lib.hid hc2
  have hS : w.cell? ⟨g, 1 + L, none⟩ = some (.slice (some ⟨b2', 0, none⟩) N2 C2) ∧ w.cell? ⟨b1', k2 * 8, none⟩ = some (.int .u8 a0) ∧ w.cell? ⟨b1', k2 * 8 + 1, none⟩ = some (.int .u8 a1) ∧ w.cell? ⟨b1', k2 * 8 + 2, none⟩ = some (.int .u8 a2) ∧ w.cell? ⟨b1', k2 * 8 + 3, none⟩ = some (.int .u8 a3) ∧ w.cell? ⟨b1', k2 * 8 + 4, none⟩ = some (.int .u8 a4) ∧ w.cell? ⟨b1', k2 * 8 + 5, none⟩ = some (.int .u8 a5) ∧ w.cell? ⟨b1', k2 * 8 + 6, none⟩ = some (.int .u8 a6) ∧ w.cell? ⟨b1', k2 * 8 + 7, none⟩ = some (.int .u8 a7) ∧ w.cell? ⟨b1', k3 * 8, none⟩ = some (.int .u8 b0) ∧ w.cell? ⟨b1', k3 * 8 + 1, none⟩ = some (.int .u8 b1) ∧ w.cell? ⟨b1', k3 * 8 + 2, none⟩ = some (.int .u8 b2) ∧ w.cell? ⟨b1', k3 * 8 + 3, none⟩ = some (.int .u8 b3) ∧ w.cell? ⟨b1', k3 * 8 + 4, none⟩ = some (.int .u8 b4) ∧ w.cell? ⟨b1', k3 * 8 + 5, none⟩ = some (.int .u8 b5) ∧ w.cell? ⟨b1', k3 * 8 + 6, none⟩ = some (.int .u8 b6) ∧ w.cell? ⟨b1', k3 * 8 + 7, none⟩ = some (.int .u8 b7) := by
    obtain ⟨c0, c1, c2, c3, c4, c5, c6, c7⟩ := range8 hrx
    exact ⟨hc2, c0, c1, c2, c3, c4, c5, c6, c7, range8 hry⟩
  rw [hg, e1]
  clear t hx hy hz hb1 hb2 hyl' hyt hC1 hC2 ho1 ho2 hn1 hn2 hxo hyo hzo hP hrx hry hrz hc2 hL hk2 hk3 hN1 hN2 hb1' hb2' hg hl e1
  go_enter Tryd.func83, Tryd.ntmps83
  go_wp2_with fail
  go_region_held3 (fun w' => w'.cell? ⟨g, 1 + L, none⟩ = some (.slice (some ⟨b2', 0, none⟩) N2 C2) ∧ w'.cell? ⟨b1', k2 * 8, none⟩ = some (.int .u8 a0) ∧ w'.cell? ⟨b1', k2 * 8 + 1, none⟩ = some (.int .u8 a1) ∧ w'.cell? ⟨b1', k2 * 8 + 2, none⟩ = some (.int .u8 a2) ∧ w'.cell? ⟨b1', k2 * 8 + 3, none⟩ = some (.int .u8 a3) ∧ w'.cell? ⟨b1', k2 * 8 + 4, none⟩ = some (.int .u8 a4) ∧ w'.cell? ⟨b1', k2 * 8 + 5, none⟩ = some (.int .u8 a5) ∧ w'.cell? ⟨b1', k2 * 8 + 6, none⟩ = some (.int .u8 a6) ∧ w'.cell? ⟨b1', k2 * 8 + 7, none⟩ = some (.int .u8 a7) ∧ w'.cell? ⟨b1', k3 * 8, none⟩ = some (.int .u8 b0) ∧ w'.cell? ⟨b1', k3 * 8 + 1, none⟩ = some (.int .u8 b1) ∧ w'.cell? ⟨b1', k3 * 8 + 2, none⟩ = some (.int .u8 b2) ∧ w'.cell? ⟨b1', k3 * 8 + 3, none⟩ = some (.int .u8 b3) ∧ w'.cell? ⟨b1', k3 * 8 + 4, none⟩ = some (.int .u8 b4) ∧ w'.cell? ⟨b1', k3 * 8 + 5, none⟩ = some (.int .u8 b5) ∧ w'.cell? ⟨b1', k3 * 8 + 6, none⟩ = some (.int .u8 b6) ∧ w'.cell? ⟨b1', k3 * 8 + 7, none⟩ = some (.int .u8 b7)) (first | (with_reducible exact hS3) | (with_reducible exact hS2) | (with_reducible exact hS) | go_keep)
    (first
      | (go_at_call 87; refine (two8 _ [a0, a1, a2, a3, a4, a5, a6, a7] [b0, b1, b2, b3, b4, b5, b6, b7] HX.out HY.out).mono ?_; rintro e w5 ⟨o0, o1, o2, o3, o4, o5, o6, o7, rfl, ho, hb5⟩; have E5 : Hid (Below w.heap.size w w5) := ((below_draws w _ 1).trans hb5); have hS2 := join_cells HC2.out HRX.out HRY.out E5.out hgl hbl1; have hS3 := join_cells_put HC2.out HRX.out HRY.out (only_put8at (only_below (only_refl w b2') E5.out) (k * 8) o0 o1 o2 o3 o4 o5 o6 o7) hgl hbl1 hne2 hne1; obtain ⟨zc0, zc1, zc2, zc3, zc4, zc5, zc6, zc7⟩ := range8 (range_below HRZ.out E5.out hbl2); have zf := Bk.frozen (HB2.out.later E5.out); have zl := Bk.lt (HB2.out.later E5.out); clear hb5))
  have hgr := only_put8at (only_below (only_refl w b2') E5.out) (k * 8) o0 o1 o2 o3 o4 o5 o6 o7
  have hbk := Bk.put8at (HB2.out.later E5.out) (k * 8) o0 o1 o2 o3 o4 o5 o6 o7
  have hbr := row_put HYL.out.1 HYL.out.2 HNS.out.1 (by rw [HNS.out.2.2.2]; omega) o0 o1 o2 o3 o4 o5 o6 o7 hbk
  rw [← ho.out] at hbr
  have HG := Lib.hid hgr; have HBK := Lib.hid hbr
  clear hgr hbk hbr hS hS2 hS3 zc0 zc1 zc2 zc3 zc4 zc5 zc6 zc7 zf zl
  go_wp2_with fail
  go_end0
  have hL := HL.out
  subst hL
  refine ⟨rfl, ?_, ?_⟩
  · refine HT.out.level HNS.out.2.2.1 (by rw [HB2'.out]; exact HG.out) _ (set_ok HNS.out.1 _ (twoI_ok _ _)) (by rw [List.length_set]; exact HNS.out.2.1) (by rw [HB2'.out]; exact HBK.out)
  · rw [HB2'.out]; exact HG.out
end Go.Proofs.YtbpmomedhdmloaaDoor
