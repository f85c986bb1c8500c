/- The example of blocks. -/
import Derived.Test.YtbpmomedhdmloaaDoorBB
import Derived.Lib.SlBytesConst
namespace Go.Proofs.YtbpmomedhdmloaaDoor
set_option linter.unusedSimpArgs false
set_option linter.unusedVariables false
open Go.RowKit Go.Maps

/-- A block's cells. -/
structure BkFit (l : List Value) : Prop where
  len : l.length = 18
  size : (Tryd.prog.info? 31).map (·.size) = some l.length
  rsize : (Tryd.prog.info? 25).map (·.size) = some l.length
  one : ∀ v ∈ l, v.oneCell' = true
theorem bk_fit {p m : List Int} {h : Int} {A : Option Addr} {N C : Nat} (hp : DgOk p) (hm : DgOk m) : BkFit (bkC p h m (.slice A N C)) := ⟨bkC_len hp hm, blk_sz hp hm, rblk_sz hp hm, bkC_one⟩
def rNone : List Int := wordI zeroD txtNone
theorem blk0 : blkE 0 [] = 0 := by decide
theorem blk1 : blkE 1 [] = 0 := by decide
theorem root_e (w : World) (p : List Int) (h : Int) (m : List Int) (hp : DgOk p) (hm : DgOk m) (hb : blkE h [] = 0) (hx : Txs w none 0 []) :
    Calls Tryd.prog 22 #[.agg (bkC p h m (.slice none 0 0)).toArray] w fun e w' => e = .returned (.tuple #[.agg (dl rNone).toArray, .int .i64 (blkE h (([] : List (List Value × TxT)).map (·.2)))]) ∧ Below w.heap.size w w' := by
  have h1 := root0_any w p h m hp hm none 0 0 [] hx (fun _ => rfl)
  have h2 : root0 h (([] : List (List Value × TxT)).map (·.2)) = rNone := by show root0 h [] = _; rw [root0, if_pos hb, rNone]
  rw [h2] at h1
  exact h1
theorem name_e (w : World) (p : List Int) (h : Int) (m : List Int) (hp : DgOk p) (hm : DgOk m) (hb : blkE h [] = 0) :
    Calls Tryd.prog 11 #[.agg (bkC p h m (.slice none 0 0)).toArray] w fun e w' => e = .returned (.tuple #[.agg (dl (nameI p h m 0 rNone 0)).toArray, .int .i64 0]) ∧ Below w.heap.size w w' := by
  have h1 := bname_any w p h m hp hm none 0 0 [] (Txs.nil w) rNone (wordI_ok _ _) (fun w' hx => root_e w' p h m hp hm hb hx)
  have h2 : blkE h (([] : List (List Value × TxT)).map (·.2)) = 0 := hb
  rw [h2] at h1
  exact h1
theorem check_e (w : World) (p : List Int) (h : Int) (m p' : List Int) (h' : Int) (m' : List Int) (hp : DgOk p) (hm : DgOk m) (hb : blkE h [] = 0) (hp' : DgOk p') (hm' : DgOk m') (hb' : blkE h' [] = 0) :
    Calls Tryd.prog 13 #[.agg (bkC p h m (.slice none 0 0)).toArray, .agg (bkC p' h' m' (.slice none 0 0)).toArray] w fun e w' => e = .returned (.int .i64 (checkB 0 p h (nameI p' h' m' 0 rNone 0) 0 h')) ∧ Below w.heap.size w w' := by
  have h2 : blkE h (([] : List (List Value × TxT)).map (·.2)) = 0 := hb
  have h3 : blkE h' (([] : List (List Value × TxT)).map (·.2)) = 0 := hb'
  have h1 := check_any w p h m hp hm none 0 0 [] (Txs.nil w) p' h' m' hp' hm' none 0 0 [] (Txs.nil w) (nameI p' h' m' 0 rNone 0) (nameI_ok _ _ _ _ _ _) (fun w' _ => by rw [h3]; exact name_e w' p' h' m' hp' hm' hb')
  rw [h2, h3] at h1
  exact h1
theorem wp_convb {P : Program} {o : Oper} {a : Act} {w : World} {K : Act → World → Prop} {Q : Exit → Act → World → Prop} (s d : TypeId) (x : Operand) (ho : o.op = .convert s d x) (X V : Value) (hx : a.eval x = X) (w' : World)
    (hb : (convert s d X).run P w = .ok V w') (h : K (a.put o.dst V) w') : o.wp P a w K Q := by
  unfold Oper.wp
  simp [execOp, ho, hx, hb, Result.andThen]
  exact h
def BkM2 (w : World) (g : Nat) (t : TypeId) (xs : List Value) : Prop := w.heap[g]? = some (.cells xs.toArray t (xs.length, xs.length + 1))
theorem BkM2.lt {w : World} {g : Nat} {t : TypeId} {xs : List Value} (h : BkM2 w g t xs) : g < w.heap.size := by
  rcases Nat.lt_or_ge g w.heap.size with hlt | hge
  · exact hlt
  · unfold BkM2 at h; rw [Array.getElem?_eq_none hge] at h; cases h
theorem BkM2.later {w w' : World} {g : Nat} {t : TypeId} {xs : List Value} (h : BkM2 w g t xs) (hb : Below w.heap.size w w') : BkM2 w' g t xs := (hb.block g h.lt).trans h
theorem BkM2.cell {w : World} {g : Nat} {t : TypeId} {xs : List Value} (h : BkM2 w g t xs) (i : Nat) : w.cell? ⟨g, i, none⟩ = xs[i]? := (cell_of_row w g i _ t _ h).trans (by simp)
theorem BkM2.sl {w : World} {g n : Nat} {t : TypeId} {xs : List Value} (h : BkM2 w g t xs) (hn : xs.length = n) (hl : n ≤ 1000000) : Sl w w.heap.size 1 (some ⟨g, 0, none⟩) n xs :=
  ⟨by omega, by omega, fun _ => ⟨⟨g, 0, none⟩, rfl, h.lt, fun j u hu => by rw [add_plain, Nat.zero_add, h.cell]; exact hu⟩⟩
theorem BkM2.new (w : World) (t : TypeId) (cs : Array Value) {xs : List Value} (h : cs.toList = xs) (fr : Nat × Nat) (hf : fr = (xs.length, xs.length + 1)) : BkM2 (w.alloc (.cells cs t fr)) w.heap.size t xs := by
  subst h; subst hf; unfold BkM2; simpa using heap_alloc_new w (.cells cs t (cs.toList.length, cs.toList.length + 1))
theorem bs_120 (w : World) : (Instr.buildSlice 40 1 #[(0, .int .u8 120)]).run Tryd.prog w = .ok (.slice (some ⟨w.heap.size, 0, none⟩) 1 1) (w.alloc (.cells (([120] : List Int).map (.int .u8)).toArray 5)) := by kernel_rfl
theorem build_next {p : List Int} (hp : DgOk p) (w : World) : (Instr.build 31 #[(0, .agg (dl p).toArray), (1, .int .i64 1)]).run Tryd.prog w = .ok (.agg (bkC p 1 zeroD (.slice none 0 0)).toArray) w := by
  obtain ⟨x0, x1, x2, x3, x4, x5, x6, x7, rfl⟩ := list8 p hp.len
  kernel_rfl
set_option maxRecDepth 20000 in
set_option maxHeartbeats 8000000 in
theorem known_any (w : World) : Calls Tryd.prog 8 #[] w fun e w' => e = .returned (.bool true) ∧ Below w.heap.size w w' := by
  have hf := first_any w ⟨#[120]⟩ (by decide)
  rw [show bytesOf ⟨#[120]⟩ = [120] by decide] at hf
  obtain ⟨mx, hmx⟩ : ∃ m, ofI [120] = m := ⟨_, rfl⟩
  have HMO : Hid (DgOk mx) := hmx ▸ ofI_ok _
  have HMX := Lib.hid hmx
  rw [hmx] at hf
  have HNM := Lib.hid (fun w' => name_e w' zeroD 0 mx zero_ok HMO.out blk0)
  obtain ⟨D, hD⟩ : ∃ D, nameI zeroD 0 mx 0 rNone 0 = D := ⟨_, rfl⟩
  have HDO : Hid (DgOk D) := hD ▸ nameI_ok _ _ _ _ _ _
  have HC1 := Lib.hid (fun w' => check_e w' D 1 zeroD zeroD 0 mx HDO.out zero_ok blk1 zero_ok HMO.out blk0)
  have HC2 := Lib.hid (fun w' => check_e w' D 1 zeroD D 1 zeroD HDO.out zero_ok blk1 HDO.out zero_ok blk1)
  have hc1 : checkB 0 D 1 D 0 0 = 0 := by rw [checkB, if_neg (by simp), eqL_self, if_neg (by simp)]
  have hc2 : ∀ X, checkB 0 D 1 X 0 1 = 24 := fun X => by rw [checkB, if_neg (by simp), if_pos (by simp)]
  rw [hD] at HNM HC1
  rw [hc1] at HC1
  rw [hc2] at HC2
  have HF1 : Hid (BkFit (bkC zeroD 0 mx (.slice none 0 0))) := bk_fit zero_ok HMO.out
  have HF2 : Hid (BkFit (bkC D 1 zeroD (.slice none 0 0))) := bk_fit HDO.out zero_ok
  have HM1 : Hid (∀ w' g', Bk w' g' 31 (bkC zeroD 0 mx (.slice none 0 0)) → BkcM w' g' zeroD 0 mx (.slice none 0 0)) := fun w' g' k => bkc_mem zero_ok HMO.out k
  have hbn2 := build_next HDO.out
  have HBN2 := Lib.hid hbn2
  obtain ⟨B1, hB1⟩ : ∃ l, bkC zeroD 0 mx (.slice none 0 0) = l := ⟨_, rfl⟩
  obtain ⟨B2, hB2⟩ : ∃ l, bkC D 1 zeroD (.slice none 0 0) = l := ⟨_, rfl⟩
  rw [hB1] at hf HNM HC1 HF1 HM1
  rw [hB2] at HC1 HC2 HF2 HBN2
  have HFI := Lib.hid hf
  have heq := dg_eqb mx mx HMO.out HMO.out
  rw [eqL_self] at heq
  clear hf hD hc1 hc2 hB1 hB2 hbn2 hmx
  go_enter Tryd.func8, Tryd.ntmps8
  go_wp2_with fail
  refine HFI.out.mono ?_
  rintro e w1 ⟨rfl, hbn⟩
  have HBB1 := Lib.hid hbn
  clear hbn HFI
  go_wp2_with (with_reducible refine stop_store 31 _ _ rfl ?_)
  refine StopD.go ?_
  obtain ⟨g2, hg2⟩ : ∃ g, w1.heap.size = g := ⟨_, rfl⟩
  have hbn : Below w1.heap.size w1 (w1.alloc (.cells #[.int .u8 0, .int .u8 0, .int .u8 0, .int .u8 0, .int .u8 0, .int .u8 0, .int .u8 0, .int .u8 0, .int .i64 0, .int .u8 0, .int .u8 0, .int .u8 0, .int .u8 0, .int .u8 0, .int .u8 0, .int .u8 0, .int .u8 0, .slice none 0 0] 31)) := below_new w1 _
  have kt : Bk (w1.alloc (.cells #[.int .u8 0, .int .u8 0, .int .u8 0, .int .u8 0, .int .u8 0, .int .u8 0, .int .u8 0, .int .u8 0, .int .i64 0, .int .u8 0, .int .u8 0, .int .u8 0, .int .u8 0, .int .u8 0, .int .u8 0, .int .u8 0, .int .u8 0, .slice none 0 0] 31)) g2 31 ([] ++ (zBk ++ [])) := by rw [← hg2]; exact Bk.new' w1 _ #[.int .u8 0, .int .u8 0, .int .u8 0, .int .u8 0, .int .u8 0, .int .u8 0, .int .u8 0, .int .u8 0, .int .i64 0, .int .u8 0, .int .u8 0, .int .u8 0, .int .u8 0, .int .u8 0, .int .u8 0, .int .u8 0, .int .u8 0, .slice none 0 0] rfl
  rw [hg2]
  refine wpList_store_part rfl 31 _ _ rfl g2 0 (.agg (B1).toArray) (B1) rfl rfl rfl 31 [] zBk [] kt rfl (by rw [HF1.out.len]; rfl) HF1.out.size HF1.out.one ?_
  intro w2 hp
  have hbn : Below w1.heap.size w1 w2 := hbn.grown hp.only hbn.size (fun q hq => by injection hq with hq; omega)
  have HA2 : Hid (Bk w2 g2 31 (B1)) := by show Bk _ _ _ _; have := hp.bk; simpa using this
  clear hp kt
  have HBB2 := Lib.hid (below_then HBB1.out hbn)
  clear hbn
  clear hg2
  go_wp2_with (with_reducible refine wpList_load_bk rfl 31 _ rfl g2 rfl B1 31 HA2.out _ Tryd.underlying31 rfl HF1.out.size ?_)
  refine (HNM.out w2).mono ?_
  rintro e w3 ⟨rfl, hbn⟩
  have HBB3 := Lib.hid (below_then HBB2.out hbn)
  have HA3 := Lib.hid (HA2.out.later hbn)
  clear hbn
  go_wp2_with (with_reducible refine stop_store 28 _ _ rfl ?_)
  refine StopD.go ?_
  obtain ⟨g4, hg4⟩ : ∃ g, w3.heap.size = g := ⟨_, rfl⟩
  have hbn : Below w3.heap.size w3 (w3.alloc (.cells #[.int .u8 0, .int .u8 0, .int .u8 0, .int .u8 0, .int .u8 0, .int .u8 0, .int .u8 0, .int .u8 0] 28)) := below_new w3 _
  have kt : Bk (w3.alloc (.cells #[.int .u8 0, .int .u8 0, .int .u8 0, .int .u8 0, .int .u8 0, .int .u8 0, .int .u8 0, .int .u8 0] 28)) g4 28 ([] ++ (dl zeroD ++ [])) := by rw [← hg4]; exact Bk.new' w3 _ #[.int .u8 0, .int .u8 0, .int .u8 0, .int .u8 0, .int .u8 0, .int .u8 0, .int .u8 0, .int .u8 0] rfl
  rw [hg4]
  refine wpList_store_part rfl 28 _ _ rfl g4 0 (.agg (dl D).toArray) (dl D) rfl rfl rfl 28 [] (dl zeroD) [] kt rfl (by rw [dl_len, dl_len, HDO.out.len]; rfl) (hdg_size _ HDO.out) (dl_one' _) ?_
  intro w4 hp
  have hbn : Below w3.heap.size w3 w4 := hbn.grown hp.only hbn.size (fun q hq => by injection hq with hq; omega)
  have HT4 : Hid (Bk w4 g4 28 (dl D)) := by show Bk _ _ _ _; have := hp.bk; simpa using this
  clear hp kt hg4
  have HBB4 := Lib.hid (below_then HBB3.out hbn)
  have HA4 := Lib.hid (HA3.out.later hbn)
  clear hbn
  go_wp2_with (first
    | (with_reducible refine wpList_load_bk rfl 28 _ rfl g4 rfl (dl D) 28 HT4.out _ Tryd.underlying28 rfl (hdg_size _ HDO.out) ?_)
    | ((with_reducible refine wpList_build rfl 31 _ rfl #[(0, .agg (dl D).toArray), (1, .int .i64 1)] ?_ _ (HBN2.out _) ?_); focus (simp [Act.eval, Act.put]; done))
    | (with_reducible refine stop_store 31 _ _ rfl ?_))
  refine StopD.go ?_
  obtain ⟨g5, hg5⟩ : ∃ g, w4.heap.size = g := ⟨_, rfl⟩
  have hbn : Below w4.heap.size w4 (w4.alloc (.cells #[.int .u8 0, .int .u8 0, .int .u8 0, .int .u8 0, .int .u8 0, .int .u8 0, .int .u8 0, .int .u8 0, .int .i64 0, .int .u8 0, .int .u8 0, .int .u8 0, .int .u8 0, .int .u8 0, .int .u8 0, .int .u8 0, .int .u8 0, .slice none 0 0] 31)) := below_new w4 _
  have kt : Bk (w4.alloc (.cells #[.int .u8 0, .int .u8 0, .int .u8 0, .int .u8 0, .int .u8 0, .int .u8 0, .int .u8 0, .int .u8 0, .int .i64 0, .int .u8 0, .int .u8 0, .int .u8 0, .int .u8 0, .int .u8 0, .int .u8 0, .int .u8 0, .int .u8 0, .slice none 0 0] 31)) g5 31 ([] ++ (zBk ++ [])) := by rw [← hg5]; exact Bk.new' w4 _ #[.int .u8 0, .int .u8 0, .int .u8 0, .int .u8 0, .int .u8 0, .int .u8 0, .int .u8 0, .int .u8 0, .int .i64 0, .int .u8 0, .int .u8 0, .int .u8 0, .int .u8 0, .int .u8 0, .int .u8 0, .int .u8 0, .int .u8 0, .slice none 0 0] rfl
  rw [hg5]
  refine wpList_store_part rfl 31 _ _ rfl g5 0 (.agg (B2).toArray) (B2) rfl rfl rfl 31 [] zBk [] kt rfl (by rw [HF2.out.len]; rfl) HF2.out.size HF2.out.one ?_
  intro w5 hp
  have hbn : Below w4.heap.size w4 w5 := hbn.grown hp.only hbn.size (fun q hq => by injection hq with hq; omega)
  have HN5 : Hid (Bk w5 g5 31 (B2)) := by show Bk _ _ _ _; have := hp.bk; simpa using this
  clear hp kt
  have HBB5 := Lib.hid (below_then HBB4.out hbn)
  have HA5 := Lib.hid (HA4.out.later hbn)
  clear hbn
  clear hg5
  go_wp2_with fail
  refine wp_region_held_drew (S := fun w' => Bk w' g2 31 B1 ∧ Bk w' g5 31 B2) (by kernel_rfl) ⟨Bk.drew HA5.out, Bk.drew HN5.out⟩ (fun hHeld => ?_)
  have hbn : Below w5.heap.size w5 w5.drew := below_draws w5 w5.heap.size 1
  obtain ⟨w6, hw6⟩ : ∃ wa, w5.drew = wa := ⟨_, rfl⟩
  rw [hw6] at hbn hHeld ⊢
  have HBB6 := Lib.hid (below_then HBB5.out hbn)
  have HA6 := Lib.hid (HA5.out.later hbn)
  have HN6 := Lib.hid (HN5.out.later hbn)
  clear hbn
  refine wpAnyH_take (i := 0) (v := ?_) rfl (by kernel_rfl) (by kernel_rfl) (by kernel_rfl) (fun _ _ _ h => h) (Or.inl ⟨by rfl, ?_⟩) (by assumption) ?_
  rotate_left
  · intro w hSw
    (try dsimp only at hSw)
    go_simp
    try with_reducible rfl
  try simp only [Act.put, List.setIfInBounds_toArray, List.set_cons_zero, List.set_cons_succ, List.getElem_toArray, List.getElem_cons_zero, List.getElem_cons_succ]
  refine wpAnyH_take (i := 1) (v := ?_) rfl (by kernel_rfl) (by kernel_rfl) (by kernel_rfl) (fun _ _ _ h => h) (Or.inl ⟨by rfl, ?_⟩) (by assumption) ?_
  rotate_left
  · intro w hSw
    (try dsimp only at hSw)
    go_simp
    try with_reducible rfl
  try simp only [Act.put, List.setIfInBounds_toArray, List.set_cons_zero, List.set_cons_succ, List.getElem_toArray, List.getElem_cons_zero, List.getElem_cons_succ]
  refine wpAnyH_take (i := 2) (v := ?_) rfl (by kernel_rfl) (by kernel_rfl) (by kernel_rfl) (fun _ _ _ h => h) (Or.inl ⟨by rfl, ?_⟩) (by assumption) ?_
  rotate_left
  · intro w hSw
    (try dsimp only at hSw)
    go_simp
    try with_reducible rfl
  try simp only [Act.put, List.setIfInBounds_toArray, List.set_cons_zero, List.set_cons_succ, List.getElem_toArray, List.getElem_cons_zero, List.getElem_cons_succ]
  refine wpAnyH_take (i := 3) (v := ?_) rfl (by kernel_rfl) (by kernel_rfl) (by kernel_rfl) (fun _ _ _ h => h) (Or.inl ⟨by rfl, ?_⟩) (by assumption) ?_
  rotate_left
  · intro w hSw
    (try dsimp only at hSw)
    go_simp
    try with_reducible rfl
  try simp only [Act.put, List.setIfInBounds_toArray, List.set_cons_zero, List.set_cons_succ, List.getElem_toArray, List.getElem_cons_zero, List.getElem_cons_succ]
  refine wpAnyH_take (i := 4) (v := ?_) rfl (by kernel_rfl) (by kernel_rfl) (by kernel_rfl) (fun _ _ _ h => h) (Or.inl ⟨by rfl, ?_⟩) (by assumption) ?_
  rotate_left
  · intro w hSw
    have hcell := (HM1.out _ _ hSw.1).c8
    clear hSw
    go_simp
    try with_reducible rfl
  try simp only [Act.put, List.setIfInBounds_toArray, List.set_cons_zero, List.set_cons_succ, List.getElem_toArray, List.getElem_cons_zero, List.getElem_cons_succ]
  refine wpAnyH_take (i := 5) (v := ?_) rfl (by kernel_rfl) (by kernel_rfl) (by kernel_rfl) (fun _ _ _ h => h) (Or.inl ⟨by rfl, ?_⟩) (by assumption) ?_
  rotate_left
  · intro w hSw
    (try dsimp only at hSw)
    go_simp
    try with_reducible rfl
  try simp only [Act.put, List.setIfInBounds_toArray, List.set_cons_zero, List.set_cons_succ, List.getElem_toArray, List.getElem_cons_zero, List.getElem_cons_succ]
  refine wpAnyH_take (i := 6) (v := ?_) rfl (by kernel_rfl) (by kernel_rfl) (by kernel_rfl) (fun _ _ _ h => h) (Or.inl ⟨by rfl, ?_⟩) (by assumption) ?_
  rotate_left
  · intro w hSw
    (try dsimp only at hSw)
    go_simp
    try with_reducible rfl
  try simp only [Act.put, List.setIfInBounds_toArray, List.set_cons_zero, List.set_cons_succ, List.getElem_toArray, List.getElem_cons_zero, List.getElem_cons_succ]
  refine wpAnyH_take (i := 7) (v := ?_) rfl (by kernel_rfl) (by kernel_rfl) (by kernel_rfl) (fun _ _ _ h => h) (Or.inl ⟨by rfl, ?_⟩) (by assumption) ?_
  rotate_left
  · intro w hSw
    (try dsimp only at hSw)
    go_simp
    try with_reducible rfl
  try simp only [Act.put, List.setIfInBounds_toArray, List.set_cons_zero, List.set_cons_succ, List.getElem_toArray, List.getElem_cons_zero, List.getElem_cons_succ]
  refine wpAnyH_take (i := 8) (v := ?_) rfl (by kernel_rfl) (by kernel_rfl) (by kernel_rfl) (fun _ _ _ h => h) (Or.inl ⟨by rfl, ?_⟩) (by assumption) ?_
  rotate_left
  · intro w hSw
    (try dsimp only at hSw)
    go_simp
    try with_reducible rfl
  try simp only [Act.put, List.setIfInBounds_toArray, List.set_cons_zero, List.set_cons_succ, List.getElem_toArray, List.getElem_cons_zero, List.getElem_cons_succ]
  refine wpAnyH_take (i := 9) (v := .agg (List.toArray (dl mx))) rfl (by kernel_rfl) (by kernel_rfl) (by kernel_rfl) (fun _ _ _ h => h) (yieldsIf_load_mid (by rfl) _ _ rfl _ _ rfl (dl mx) _ (fun w hSw => (HM1.out _ _ hSw.1).r9) Tryd.underlying28 rfl (hdg_size _ HMO.out)) (by assumption) ?_
  try simp only [Act.put, List.setIfInBounds_toArray, List.set_cons_zero, List.set_cons_succ, List.getElem_toArray, List.getElem_cons_zero, List.getElem_cons_succ]
  have hcv := Lib.run_convert_bytes_const (P := Tryd.prog) w6 40 5 (([120] : List Int).map (.int .u8)).toArray 1 1 Tryd.underlying40 Tryd.underlying5
  refine wpAnyH_ready (rs := [10]) (by kernel_rfl) (by simp) ?_
  refine AllReadyH.cons rfl (fun K hK => ?_) AllReadyH.nil
  rw [if_pos (by rfl)]
  refine wp_bslice2 40 1 _ rfl #[(0, .int .u8 120)] (by simp [Act.eval, Act.put]) _ _ (bs_120 w6) ?_
  refine hK.out _ _ ⟨HA6.out.alloc _, HN6.out.alloc _⟩ (fun hHeld => ?_)
  clear hK K
  try simp only [Act.put, List.setIfInBounds_toArray, List.set_cons_zero, List.set_cons_succ, List.getElem_toArray, List.getElem_cons_zero, List.getElem_cons_succ]
  refine wpAnyH_ready (rs := [11]) (by kernel_rfl) (by simp) ?_
  refine AllReadyH.cons rfl (fun K hK => ?_) AllReadyH.nil
  rw [if_pos (by rfl)]
  refine wp_convb 40 40 _ rfl (.slice (some ⟨w6.heap.size, 0, none⟩) 1 1) (.slice (some ⟨w6.heap.size, 0, none⟩) 1 1) rfl _ hcv ?_
  obtain ⟨w7, hw7⟩ : ∃ w7, w6.alloc (.cells (([120] : List Int).map (.int .u8)).toArray 5 ((([120] : List Int).map (Value.int .u8)).toArray.size, (([120] : List Int).map (Value.int .u8)).toArray.size + 1)) = w7 := ⟨_, rfl⟩
  obtain ⟨q7, hq7⟩ : ∃ q, w6.heap.size = q := ⟨_, rfl⟩
  have hbn : Below w6.heap.size w6 w7 := hw7 ▸ below_new w6 _
  have HQ7 : Hid (BkM2 w7 q7 5 (([120] : List Int).map (.int .u8))) := by show BkM2 _ _ _ _; rw [← hw7, ← hq7]; exact BkM2.new _ _ _ rfl _ rfl
  rw [hw7, hq7]
  clear hw7 hq7 hcv
  have HBB7 := Lib.hid (below_then HBB6.out hbn)
  have HA7 := Lib.hid (HA6.out.later hbn)
  have HN7 := Lib.hid (HN6.out.later hbn)
  clear hbn
  refine hK.out _ _ ⟨HA7.out, HN7.out⟩ (fun hHeld => ?_)
  clear hK K HA6 HN6 HBB6
  try simp only [Act.put, List.setIfInBounds_toArray, List.set_cons_zero, List.set_cons_succ, List.getElem_toArray, List.getElem_cons_zero, List.getElem_cons_succ]
  have hof := hof_any w7 (some ⟨q7, 0, none⟩) 1 1 [120] (HQ7.out.sl rfl (by omega)) (fun b hb => by simp at hb; omega) (by omega) (fun ad e => by injection e with e; subst e; exact HQ7.out.lt)
  rw [HMX.out] at hof
  have HOF := Lib.hid hof
  clear hof
  refine wpAnyH_ready (rs := [12]) (by kernel_rfl) (by simp) ?_
  refine AllReadyH.cons rfl (fun K hK => ?_) AllReadyH.nil
  go_simp
  (refine HOF.out.mono ?_; rintro e w8 ⟨rfl, hbn⟩; have HBB8 := Lib.hid (below_then HBB7.out hbn); have HA8 := Lib.hid (HA7.out.later hbn); have HN8 := Lib.hid (HN7.out.later hbn); clear hbn)
  refine hK.out _ _ (⟨HA8.out, HN8.out⟩) (fun hHeld => ?_)
  clear hK K
  try simp only [Act.put, List.setIfInBounds_toArray, List.set_cons_zero, List.set_cons_succ, List.getElem_toArray, List.getElem_cons_zero, List.getElem_cons_succ]
  clear HA7 HN7 HBB7 HOF
  refine wpAnyH_take (i := 13) (v := ?_) rfl (by kernel_rfl) (by kernel_rfl) (by kernel_rfl) (fun _ _ _ h => h) (Or.inl ⟨by rfl, ?_⟩) (by assumption) ?_
  rotate_left
  · intro w hSw
    (try dsimp only at hSw)
    go_simp
    try with_reducible rfl
  try simp only [Act.put, List.setIfInBounds_toArray, List.set_cons_zero, List.set_cons_succ, List.getElem_toArray, List.getElem_cons_zero, List.getElem_cons_succ]
  refine wpAnyH_take (i := 14) (v := ?_) rfl (by kernel_rfl) (by kernel_rfl) (by kernel_rfl) (fun _ _ _ h => h) (Or.inl ⟨by rfl, ?_⟩) (by assumption) ?_
  rotate_left
  · intro w hSw
    (try dsimp only at hSw)
    go_simp
    try with_reducible rfl
  try simp only [Act.put, List.setIfInBounds_toArray, List.set_cons_zero, List.set_cons_succ, List.getElem_toArray, List.getElem_cons_zero, List.getElem_cons_succ]
  refine wpAnyH_take (i := 15) (v := ?_) rfl (by kernel_rfl) (by kernel_rfl) (by kernel_rfl) (fun _ _ _ h => h) (Or.inl ⟨by rfl, ?_⟩) (by assumption) ?_
  rotate_left
  · intro w hSw
    (try dsimp only at hSw)
    go_simp
    try with_reducible rfl
  try simp only [Act.put, List.setIfInBounds_toArray, List.set_cons_zero, List.set_cons_succ, List.getElem_toArray, List.getElem_cons_zero, List.getElem_cons_succ]
  refine wpAnyH_take (i := 16) (v := .agg (List.toArray (B2))) rfl (by kernel_rfl) (by kernel_rfl) (by kernel_rfl) (fun _ _ _ h => h) (yieldsIf_load_mid (by rfl) _ _ rfl _ _ rfl (B2) _ (fun w hSw => (Bk.range (pre := []) (post := []) (by simpa using hSw.2) rfl)) Tryd.underlying31 rfl (HF2.out.size)) (by assumption) ?_
  try simp only [Act.put, List.setIfInBounds_toArray, List.set_cons_zero, List.set_cons_succ, List.getElem_toArray, List.getElem_cons_zero, List.getElem_cons_succ]
  refine wpAnyH_take (i := 17) (v := .agg (List.toArray (B1))) rfl (by kernel_rfl) (by kernel_rfl) (by kernel_rfl) (fun _ _ _ h => h) (yieldsIf_load_mid (by rfl) _ _ rfl _ _ rfl (B1) _ (fun w hSw => (Bk.range (pre := []) (post := []) (by simpa using hSw.1) rfl)) Tryd.underlying31 rfl (HF1.out.size)) (by assumption) ?_
  try simp only [Act.put, List.setIfInBounds_toArray, List.set_cons_zero, List.set_cons_succ, List.getElem_toArray, List.getElem_cons_zero, List.getElem_cons_succ]
  refine wpAnyH_ready (rs := [18]) (by kernel_rfl) (by simp) ?_
  refine AllReadyH.cons rfl (fun K hK => ?_) AllReadyH.nil
  go_simp
  (refine (HC1.out w8).mono ?_; rintro e w9 ⟨rfl, hbn⟩; have HBB9 := Lib.hid (below_then HBB8.out hbn); have HA9 := Lib.hid (HA8.out.later hbn); have HN9 := Lib.hid (HN8.out.later hbn); clear hbn)
  refine hK.out _ _ (⟨HA9.out, HN9.out⟩) (fun hHeld => ?_)
  clear hK K
  try simp only [Act.put, List.setIfInBounds_toArray, List.set_cons_zero, List.set_cons_succ, List.getElem_toArray, List.getElem_cons_zero, List.getElem_cons_succ]
  clear HA8 HN8 HBB8
  refine wpAnyH_take (i := 19) (v := ?_) rfl (by kernel_rfl) (by kernel_rfl) (by kernel_rfl) (fun _ _ _ h => h) (Or.inl ⟨by rfl, ?_⟩) (by assumption) ?_
  rotate_left
  · intro w hSw
    (try dsimp only at hSw)
    go_simp
    try with_reducible rfl
  try simp only [Act.put, List.setIfInBounds_toArray, List.set_cons_zero, List.set_cons_succ, List.getElem_toArray, List.getElem_cons_zero, List.getElem_cons_succ]
  refine wpAnyH_take (i := 20) (v := ?_) rfl (by kernel_rfl) (by kernel_rfl) (by kernel_rfl) (fun _ _ _ h => h) (Or.inl ⟨by rfl, ?_⟩) (by assumption) ?_
  rotate_left
  · intro w hSw
    (try dsimp only at hSw)
    go_simp
    try with_reducible rfl
  try simp only [Act.put, List.setIfInBounds_toArray, List.set_cons_zero, List.set_cons_succ, List.getElem_toArray, List.getElem_cons_zero, List.getElem_cons_succ]
  refine wpAnyH_take (i := 21) (v := ?_) rfl (by kernel_rfl) (by kernel_rfl) (by kernel_rfl) (fun _ _ _ h => h) (Or.inl ⟨by rfl, ?_⟩) (by assumption) ?_
  rotate_left
  · intro w hSw
    (try dsimp only at hSw)
    go_simp
    try with_reducible rfl
  try simp only [Act.put, List.setIfInBounds_toArray, List.set_cons_zero, List.set_cons_succ, List.getElem_toArray, List.getElem_cons_zero, List.getElem_cons_succ]
  refine wpAnyH_take (i := 22) (v := .agg (List.toArray (B2))) rfl (by kernel_rfl) (by kernel_rfl) (by kernel_rfl) (fun _ _ _ h => h) (yieldsIf_load_mid (by rfl) _ _ rfl _ _ rfl (B2) _ (fun w hSw => (Bk.range (pre := []) (post := []) (by simpa using hSw.2) rfl)) Tryd.underlying31 rfl (HF2.out.size)) (by assumption) ?_
  try simp only [Act.put, List.setIfInBounds_toArray, List.set_cons_zero, List.set_cons_succ, List.getElem_toArray, List.getElem_cons_zero, List.getElem_cons_succ]
  refine wpAnyH_take (i := 23) (v := .agg (List.toArray (B2))) rfl (by kernel_rfl) (by kernel_rfl) (by kernel_rfl) (fun _ _ _ h => h) (yieldsIf_load_mid (by rfl) _ _ rfl _ _ rfl (B2) _ (fun w hSw => (Bk.range (pre := []) (post := []) (by simpa using hSw.2) rfl)) Tryd.underlying31 rfl (HF2.out.size)) (by assumption) ?_
  try simp only [Act.put, List.setIfInBounds_toArray, List.set_cons_zero, List.set_cons_succ, List.getElem_toArray, List.getElem_cons_zero, List.getElem_cons_succ]
  refine wpAnyH_ready (rs := [24]) (by kernel_rfl) (by simp) ?_
  refine AllReadyH.cons rfl (fun K hK => ?_) AllReadyH.nil
  go_simp
  (refine (HC2.out w9).mono ?_; rintro e wa ⟨rfl, hbn⟩; have HBBa := Lib.hid (below_then HBB9.out hbn); have HAa := Lib.hid (HA9.out.later hbn); have HNa := Lib.hid (HN9.out.later hbn); clear hbn)
  refine hK.out _ _ (⟨HAa.out, HNa.out⟩) (fun hHeld => ?_)
  clear hK K
  try simp only [Act.put, List.setIfInBounds_toArray, List.set_cons_zero, List.set_cons_succ, List.getElem_toArray, List.getElem_cons_zero, List.getElem_cons_succ]
  clear HA9 HN9 HBB9
  refine wpAnyH_take (i := 25) (v := ?_) rfl (by kernel_rfl) (by kernel_rfl) (by kernel_rfl) (fun _ _ _ h => h) (Or.inl ⟨by rfl, ?_⟩) (by assumption) ?_
  rotate_left
  · intro w hSw
    (try dsimp only at hSw)
    go_simp
    try with_reducible rfl
  try simp only [Act.put, List.setIfInBounds_toArray, List.set_cons_zero, List.set_cons_succ, List.getElem_toArray, List.getElem_cons_zero, List.getElem_cons_succ]
  refine wpAnyH_take (i := 26) (v := ?_) rfl (by kernel_rfl) (by kernel_rfl) (by kernel_rfl) (fun _ _ _ h => h) (Or.inl ⟨by rfl, ?_⟩) (by assumption) ?_
  rotate_left
  · intro w hSw
    (try dsimp only at hSw)
    go_simp
    try with_reducible rfl
  try simp only [Act.put, List.setIfInBounds_toArray, List.set_cons_zero, List.set_cons_succ, List.getElem_toArray, List.getElem_cons_zero, List.getElem_cons_succ]
  refine wpAnyH_take (i := 27) (v := ?_) rfl (by kernel_rfl) (by kernel_rfl) (by kernel_rfl) (fun _ _ _ h => h) (Or.inl ⟨by rfl, ?_⟩) (by assumption) ?_
  rotate_left
  · intro w hSw
    (try dsimp only at hSw)
    go_simp
    try with_reducible rfl
  try simp only [Act.put, List.setIfInBounds_toArray, List.set_cons_zero, List.set_cons_succ, List.getElem_toArray, List.getElem_cons_zero, List.getElem_cons_succ]
  refine wpAnyH_done rfl ?_ _
  go_wp2_with fail
  go_ret
  exact ⟨rfl, HBBa.out⟩
end Go.Proofs.YtbpmomedhdmloaaDoor
