/- A ring takes a message. -/
import Derived.Test.YtakfdlokgddaoaaDoorW9
namespace Go.Proofs.YtakfdlokgddaoaaDoor
set_option linter.unusedSimpArgs false
set_option linter.unusedVariables false
open Go.RowKit Go.Maps

section
variable {w w' w'' : World} {g b lo : Nat} {V : Value}
theorem Chg.of_below (h : Below w.heap.size w w') : Chg w w' g b V := ⟨h.os, h.tape, h.output, h.size, fun i hi _ _ _ => h.block i hi⟩
theorem Chg.refl (w : World) : Chg w w g b V := Chg.of_below (Below.refl _ w)
theorem Chg.then_grown (h : Chg w w' g b V) {row : Option Nat} (k : w'.grownBy w'' row) (hr : ∀ q, row = some q → q = g ∨ q = b ∨ V.ownBlock = some q ∨ w.heap.size ≤ q) : Chg w w'' g b V :=
  ⟨k.os.trans h.os, k.tape.trans h.tape, k.output.trans h.output, Nat.le_trans h.size k.size, fun i hi h1 h2 h3 => (k.block i (Nat.lt_of_lt_of_le hi h.size) (fun e => by
    rcases hr i e.symm with h4 | h4 | h4 | h4
    · exact h1 h4
    · exact h2 h4
    · exact h3 h4
    · omega)).trans (h.blk i hi h1 h2 h3)⟩
theorem Chg.then_below (h : Chg w w' g b V) (k : Below w'.heap.size w' w'') : Chg w w'' g b V :=
  ⟨k.os.trans h.os, k.tape.trans h.tape, k.output.trans h.output, Nat.le_trans h.size k.size, fun i hi h1 h2 h3 => (k.block i (Nat.lt_of_lt_of_le hi h.size)).trans (h.blk i hi h1 h2 h3)⟩
theorem Chg.after_below (h : Below w.heap.size w w') (k : Chg w' w'' g b V) : Chg w w'' g b V :=
  ⟨k.os.trans h.os, k.tape.trans h.tape, k.output.trans h.output, Nat.le_trans h.size k.size, fun i hi h1 h2 h3 => (k.blk i (Nat.lt_of_lt_of_le hi h.size) h1 h2 h3).trans (h.block i hi)⟩
def NewV (w : World) (V V' : Value) : Prop := V'.ownBlock = V.ownBlock ∨ ∀ q, V'.ownBlock = some q → w.heap.size ≤ q
theorem NewV.refl (w : World) (V : Value) : NewV w V V := .inl rfl
theorem NewV.ne {q : Nat} {V' : Value} (h : NewV w V V') (hq : q < w.heap.size) (hn : V.ownBlock ≠ some q) : V'.ownBlock ≠ some q := by
  rcases h with h | h
  · rw [h]; exact hn
  · intro e; have := h q e; omega
theorem Chg.trans {V' : Value} (h : Chg w w' g b V) (k : Chg w' w'' g b V') (hv : NewV w V V') : Chg w w'' g b V :=
  ⟨k.os.trans h.os, k.tape.trans h.tape, k.output.trans h.output, Nat.le_trans h.size k.size, fun i hi h1 h2 h3 => (k.blk i (Nat.lt_of_lt_of_le hi h.size) h1 h2 (hv.ne hi h3)).trans (h.blk i hi h1 h2 h3)⟩
theorem Chg.below (h : Chg w w' g b V) (hw : lo ≤ w.heap.size) (hg : lo ≤ g) (hb : lo ≤ b) (hv : ∀ q, V.ownBlock = some q → lo ≤ q) : Below lo w w' :=
  ⟨h.os, h.tape, h.output, h.size, fun k hk => h.blk k (by omega) (by omega) (by omega) (fun e => by have := hv k e; omega)⟩
theorem Bk.chg {q : Nat} {t : TypeId} {xs : List Value} (hq : Bk w q t xs) (h : Chg w w' g b V) (h1 : q ≠ g) (h2 : q ≠ b) (h3 : V.ownBlock ≠ some q) : Bk w' q t xs := (h.blk q hq.lt h1 h2 h3).trans hq
end

/-- A ledger, and the map of its messages: block g, the map's block b. -/
structure LedAt (w : World) (lo g b : Nat) (V : Value) (sec : List Int) (h : Int) (tp : Value) (L : List (List Int)) : Prop where
  bk : Bk w g 67 (rgC sec h tp V (.map (some b)))
  row : w.ownsRow lo 23 8 V L.length (cellsD L)
  map : LMap w b L.length L
  glo : lo ≤ g
  blo : lo ≤ b
  ok : DsOk L
  nd : L.Nodup
section
variable {w w' : World} {lo g b : Nat} {V tp : Value} {sec : List Int} {h : Int} {L : List (List Int)}
theorem LedAt.later (k : LedAt w lo g b V sec h tp L) (hb : Below w.heap.size w w') : LedAt w' lo g b V sec h tp L :=
  ⟨k.bk.later hb, own_keep k.row hb, World.ownsMap.kept (row := none) k.map ⟨hb.os, hb.tape, hb.output, hb.size, fun q hq _ => hb.block q hq⟩ (by simp), k.glo, k.blo, k.ok, k.nd⟩
theorem LedAt.apart (k : LedAt w lo g b V sec h tp L) {q : Nat} (hq : w.grownBy w' (some q)) (h1 : q ≠ g) (h2 : q ≠ b) (h3 : V.ownBlock ≠ some q) : LedAt w' lo g b V sec h tp L :=
  ⟨k.bk.grown hq (by intro e; injection e with e; exact h1 e.symm), own_only k.row hq h3, World.ownsMap.kept k.map hq (by intro e; injection e with e; exact h2 e.symm), k.glo, k.blo, k.ok, k.nd⟩
theorem LedAt.gv (k : LedAt w lo g b V sec h tp L) : V.ownBlock ≠ some g := own_bk_ne k.row k.bk (by decide)
theorem LedAt.bv (k : LedAt w lo g b V sec h tp L) : V.ownBlock ≠ some b := Ne.symm (map_apart k.map k.row)
theorem LedAt.bg (k : LedAt w lo g b V sec h tp L) : b ≠ g := map_ne k.map k.bk
theorem LedAt.lt (k : LedAt w lo g b V sec h tp L) : g < w.heap.size := k.bk.lt
theorem LedAt.bne (k : LedAt w lo g b V sec h tp L) {q : Nat} {t : TypeId} {xs : List Value} (hq : Bk w q t xs) : q ≠ b := fun e => map_ne k.map hq e.symm
theorem LedAt.vne (k : LedAt w lo g b V sec h tp L) {q : Nat} {t : TypeId} {xs : List Value} (hq : Bk w q t xs) (ht : 23 ≠ t) : V.ownBlock ≠ some q := own_bk_ne k.row hq ht
theorem LedAt.vlo (k : LedAt w lo g b V sec h tp L) : ∀ q, V.ownBlock = some q → lo ≤ q := fun q hq => (World.ownsRow.lt k.row q hq).1
end

set_option maxRecDepth 20000 in
set_option maxHeartbeats 4000000 in
theorem take_anyW (w : World) (lo g b : Nat) (V tp : Value) (sec : List Int) (h : Int) (L : List (List Int)) (hk : LedAt w lo g b V sec h tp L) (hs : DgOk sec) (m : List Int) (hm : DgOk m) (hn : m ∉ L) (hl : L.length ≤ 1000) :
    Calls Tryd.prog 30 #[.pointer (some ⟨g, 0, none⟩), .agg (dl m).toArray] w fun e w' => e = .returned (.int .i64 L.length) ∧ ∃ V', LedAt w' lo g b V' sec h tp (L ++ [m]) ∧ Chg w w' g b V ∧ NewV w V V' := by
  obtain ⟨A, c, rfl⟩ := own_form hk.row
  obtain ⟨n, hn'⟩ : ∃ n, L.length = n := ⟨_, rfl⟩
  have HN := Lib.hid hn'
  have HLO : Hid (lo ≤ w.heap.size) := Nat.le_trans hk.glo (Nat.le_of_lt hk.lt)
  have HVL := Lib.hid (World.ownsRow.lt hk.row); have HKO := Lib.hid hk.ok; have HKN := Lib.hid hk.nd
  have HGV := Lib.hid hk.gv; have HBV := Lib.hid hk.bv; have HBG := Lib.hid hk.bg; have HGB : Hid (lo ≤ g ∧ lo ≤ b ∧ g < w.heap.size) := ⟨hk.glo, hk.blo, hk.lt⟩
  rw [hn'] at HVL HGV HBV hk hl ⊢
  obtain ⟨X, hX⟩ : ∃ X, (dl m).toArray = X := ⟨_, rfl⟩
  obtain ⟨z, hz⟩ : ∃ z, w.heap.size = z := ⟨_, rfl⟩
  obtain ⟨w1, hw1⟩ : ∃ w1, w.alloc (.cells X 23) = w1 := ⟨_, rfl⟩
  have hb1 : Below w.heap.size w w1 := hw1 ▸ below_new w _
  have kx : Bk w1 z 23 (dl m) := hw1 ▸ Bk.at_ w _ X hz (by rw [← hX])
  have HW := Lib.hid hw1; have HX1 := Lib.hid kx; have HZ := Lib.hid hz; have HSO := Lib.hid hs; have HMO := Lib.hid hm; have HNM := Lib.hid hn; have HXE := Lib.hid hX
  have HK1 := Lib.hid (hk.later hb1); have HC1 : Hid (Chg w w1 g b (.slice A n c)) := Chg.of_below hb1
  rw [hX]
  clear hX hw1 hb1 kx hz hk hs hm hn hn'
  go_enter Tryd.func30, Tryd.ntmps30
  go_upto_region 1 with fail
  rw [HW.out]
  have c10 := (rg_mem HSO.out HK1.out.bk).c10
  go_wp2_with fail
  clear c10
  have hbd : Below w1.heap.size w1 w1.drew := below_draws w1 w1.heap.size 1
  refine wp_region_L [(10, fun w' => Bk w' g 67 (rgC sec h tp (.slice A n c) (.map (some b))) ∧ Bk w' w.heap.size 23 (dl m))] (by kernel_rfl) ⟨fun _ => ⟨HK1.out.bk.later hbd, by rw [HZ.out]; exact HX1.out.later hbd⟩, trivial⟩ (fun hHeld => ?_)
  obtain ⟨wa, hwa⟩ : ∃ wa, w1.drew = wa := ⟨_, rfl⟩
  rw [hwa] at hbd hHeld ⊢
  have HKa := Lib.hid (HK1.out.later hbd); have HXa := Lib.hid (HX1.out.later hbd); have HCa := Lib.hid (HC1.out.then_below hbd)
  clear hwa hbd HK1 HX1 HC1
  refine wpAnyL_take0 (i := 0) (v := ?_) rfl (by kernel_rfl) (by kernel_rfl) (by kernel_rfl) (by rfl) (fun _ _ _ h => h) (Or.inl ⟨by rfl, ?_⟩) hHeld ?_
  rotate_left
  · intro w _
    go_simp
    try with_reducible rfl
  clear hHeld
  intro hHeld
  try simp only [Act.put, List.setIfInBounds_toArray, List.set_cons_zero, List.set_cons_succ, List.getElem_toArray, List.getElem_cons_zero, List.getElem_cons_succ]
  refine wpAnyL_take0 (i := 1) (v := ?_) rfl (by kernel_rfl) (by kernel_rfl) (by kernel_rfl) (by rfl) (fun _ _ _ h => h) (Or.inl ⟨by rfl, ?_⟩) hHeld ?_
  rotate_left
  · intro w _
    go_simp
    try with_reducible rfl
  clear hHeld
  intro hHeld
  try simp only [Act.put, List.setIfInBounds_toArray, List.set_cons_zero, List.set_cons_succ, List.getElem_toArray, List.getElem_cons_zero, List.getElem_cons_succ]
  refine wpAnyL_take0 (i := 2) (v := ?_) rfl (by kernel_rfl) (by kernel_rfl) (by kernel_rfl) (by rfl) (fun _ _ _ h => h) (Or.inl ⟨by rfl, ?_⟩) hHeld ?_
  rotate_left
  · intro w _
    go_simp
    try with_reducible rfl
  clear hHeld
  intro hHeld
  try simp only [Act.put, List.setIfInBounds_toArray, List.set_cons_zero, List.set_cons_succ, List.getElem_toArray, List.getElem_cons_zero, List.getElem_cons_succ]
  refine wpAnyL_take0 (i := 3) (v := ?_) rfl (by kernel_rfl) (by kernel_rfl) (by kernel_rfl) (by rfl) (fun _ _ _ h => h) (Or.inl ⟨by rfl, ?_⟩) hHeld ?_
  rotate_left
  · intro w _
    go_simp
    try with_reducible rfl
  clear hHeld
  intro hHeld
  try simp only [Act.put, List.setIfInBounds_toArray, List.set_cons_zero, List.set_cons_succ, List.getElem_toArray, List.getElem_cons_zero, List.getElem_cons_succ]
  refine wpAnyL_take (i := 4) 0 rfl rfl (by kernel_rfl) (by kernel_rfl) (by kernel_rfl) (by kernel_rfl) (by kernel_rfl) (by rfl) (fun _ _ _ h => h) (v := ?_) (Or.inl ⟨by rfl, ?_⟩) hHeld ?_
  rotate_left
  · intro w hSw
    have hcell := (rg_mem HSO.out hSw.1).c10
    clear hSw
    go_simp
    try with_reducible rfl
  clear hHeld
  intro hHeld
  try simp only [Act.put, List.setIfInBounds_toArray, List.set_cons_zero, List.set_cons_succ, List.getElem_toArray, List.getElem_cons_zero, List.getElem_cons_succ]
  refine wpAnyL_take (i := 5) 0 rfl rfl (by kernel_rfl) (by kernel_rfl) (by kernel_rfl) (by kernel_rfl) (by kernel_rfl) (by rfl) (fun _ _ _ h => h) (v := .agg (List.toArray (dl m))) (yieldsIf_load_mid (by rfl) _ _ rfl _ _ rfl (dl m) _ (fun w hSw => (Bk.range (pre := []) (post := []) (by simpa using hSw.2) rfl)) Tryd.underlying23 rfl (hdg_size _ HMO.out)) hHeld ?_
  clear hHeld
  intro hHeld
  try simp only [Act.put, List.setIfInBounds_toArray, List.set_cons_zero, List.set_cons_succ, List.getElem_toArray, List.getElem_cons_zero, List.getElem_cons_succ]
  refine wpAnyL_ready (rs := [6]) (by kernel_rfl) (by simp) ?_
  refine AllReadyL.cons rfl (fun K hK => ?_) AllReadyL.nil
  rw [if_pos (by rfl)]
  refine wp_bslice _ 1 _ rfl #[(0, .agg (dl m).toArray)] (by simp [Act.eval]) _ _ (bs_dw HMO.out _) ?_
  obtain ⟨wc, hwc⟩ : ∃ w7, wa.alloc (.cells (dl m).toArray 23) = w7 := ⟨_, rfl⟩
  obtain ⟨q7, hq7⟩ : ∃ q, wa.heap.size = q := ⟨_, rfl⟩
  have hbn : Below wa.heap.size wa wc := hwc ▸ below_new wa _
  have HQ7 : Hid (Bk wc q7 23 (dl m)) := by show Bk _ _ _ _; rw [← hwc]; exact Bk.at_ wa _ _ hq7 rfl
  rw [hwc, hq7]
  clear hwc hq7
  have HKc := Lib.hid (HKa.out.later hbn); have HXc := Lib.hid (HXa.out.later hbn); have HCc := Lib.hid (HCa.out.then_below hbn)
  clear hbn HKa HXa HCa
  refine hK.out _ _ ⟨fun _ => ⟨HKc.out.bk, by rw [HZ.out]; exact HXc.out⟩, trivial⟩ (fun hHeld => ?_)
  clear hK K
  try simp only [Act.put, List.setIfInBounds_toArray, List.set_cons_zero, List.set_cons_succ, List.getElem_toArray, List.getElem_cons_zero, List.getElem_cons_succ]
  refine wpAnyL_ready (rs := [7]) (by kernel_rfl) (by simp) ?_
  refine AllReadyL.cons rfl (fun K hK => ?_) AllReadyL.nil
  rw [if_pos (by rfl)]
  obtain ⟨i0, z0', hi, hi0, hi1, hi2, hi3⟩ := dg_partsw
  have hrow := HKc.out.row
  rw [HN.out] at hrow
  refine wp_app _ (.tmp 15) (.tmp 17) 32 rfl lo 23 i0 z0' 8 8 Tryd.underlying32 hi hi0 hi1 hi2 hi3 (by decide) _ _ _ rfl hrow _ _ _ _ _ rfl (Sl.of_own (HQ7.out.own (base := 0) (size := 8) (cap := 1) (n := 1) (Nat.zero_le _) (Nat.le_refl _) (by omega) (by rw [dl_len, HMO.out.len]) (by rw [List.take_of_length_le (by rw [dl_len, HMO.out.len]; exact Nat.le_refl _)]))) (dl_one' _) (by unfold maxLen; omega) (by omega) (Nat.le_trans HLO.out HCc.out.size) ?_
  intro v9 wd hown hg hat
  obtain ⟨A9, c9, h9⟩ := own_form hown
  subst h9
  have HBd := Lib.hid (HKc.out.bk.grown hg (Ne.symm (own_bk_ne hrow HKc.out.bk (by decide)))); have HMd : Hid (LMap wd b n L) := by
    have := World.ownsMap.kept HKc.out.map hg (map_apart HKc.out.map hrow)
    rw [HN.out] at this; exact this
  have HXd := Lib.hid (HXc.out.grown hg (fun e => by have := (HVL.out _ e.symm).2; have := HZ.out; omega))
  have HCd : Hid (Chg w wd g b (.slice A n c)) := HCc.out.then_grown hg (fun q hq => .inr (.inr (.inl hq)))
  have HVd : Hid (NewV w (.slice A n c) (.slice A9 (n + 1) c9)) := by
    rcases hat with hat | hat
    · exact .inl hat
    · exact .inr fun q hq => by rw [hat] at hq; injection hq with hq; have := HCc.out.size; omega
  have HOd := Lib.hid hown
  clear hown hg hat hi hi0 hi1 hi2 hi3 hrow HKc HXc HCc HQ7
  refine hK.out _ _ ⟨fun _ => ⟨HBd.out, by rw [HZ.out]; exact HXd.out⟩, trivial⟩ (fun hHeld => ?_)
  clear hK K
  try simp only [Act.put, List.setIfInBounds_toArray, List.set_cons_zero, List.set_cons_succ, List.getElem_toArray, List.getElem_cons_zero, List.getElem_cons_succ]
  refine wpAnyL_take0 (i := 8) (v := ?_) rfl (by kernel_rfl) (by kernel_rfl) (by kernel_rfl) (by rfl) (fun _ _ _ h => h) (Or.inl ⟨by rfl, ?_⟩) hHeld ?_
  rotate_left
  · intro w _
    go_simp
    try with_reducible rfl
  clear hHeld
  intro hHeld
  try simp only [Act.put, List.setIfInBounds_toArray, List.set_cons_zero, List.set_cons_succ, List.getElem_toArray, List.getElem_cons_zero, List.getElem_cons_succ]
  refine wpAnyL_take0 (i := 9) (v := ?_) rfl (by kernel_rfl) (by kernel_rfl) (by kernel_rfl) (by rfl) (fun _ _ _ h => h) (Or.inl ⟨by rfl, ?_⟩) hHeld ?_
  rotate_left
  · intro w _
    go_simp
    try with_reducible rfl
  clear hHeld
  intro hHeld
  try simp only [Act.put, List.setIfInBounds_toArray, List.set_cons_zero, List.set_cons_succ, List.getElem_toArray, List.getElem_cons_zero, List.getElem_cons_succ]
  refine wpAnyL_ready (rs := [10]) (by kernel_rfl) (by simp) ?_
  refine AllReadyL.cons rfl (fun K hK => ?_) AllReadyL.nil
  rw [if_pos (by rfl)]
  refine wp_store_part _ _ _ rfl g 10 _ ([.slice A9 (n + 1) c9]) rfl rfl rfl _ (dl sec ++ [.int .i64 h, tp]) ([.slice A n c]) ([.map (some b)]) (by have := HBd.out; simpa [rgC] using this) (by simp [dl_len, HSO.out.len]) rfl (by kernel_rfl) (by simp [Value.oneCell']) ?_
  intro we hp
  refine hK.out _ _ ⟨fun h => dead h (by kernel_rfl), trivial⟩ (fun hHeld => ?_)
  clear hK K
  try simp only [Act.put, List.setIfInBounds_toArray, List.set_cons_zero, List.set_cons_succ, List.getElem_toArray, List.getElem_cons_zero, List.getElem_cons_succ]
  refine wpAnyL_done (by kernel_rfl) ?_ _
  clear hHeld
  have HBe : Hid (Bk we g 67 (rgC sec h tp (.slice A9 (n + 1) c9) (.map (some b)))) := by show Bk _ _ _ _; have := hp.bk; simpa [rgC] using this
  have HOe := Lib.hid (own_only HOd.out hp.only (own_bk_ne HOd.out HBd.out (by decide)))
  have HMe : Hid (LMap we b n L) := World.ownsMap.kept HMd.out hp.only (by intro e; injection e with e; exact HBG.out e)
  have HXe := Lib.hid (HXd.out.grown hp.only (by intro e; injection e with e; have := HGB.out; have := HZ.out; omega))
  have HCe : Hid (Chg w we g b (.slice A n c)) := HCd.out.then_grown hp.only (fun q hq => .inl (by injection hq with hq; exact hq.symm))
  clear hp HBd HOd HMd HXd HCd
  go_wp2_with fail
  have hbd : Below we.heap.size we we.drew := below_draws we we.heap.size 1
  refine wp_region_held_drew (S := fun w' => Bk w' z 23 (dl m) ∧ Bk w' g 67 (rgC sec h tp (.slice A9 (n + 1) c9) (.map (some b)))) (by kernel_rfl) ⟨Bk.drew HXe.out, Bk.drew HBe.out⟩ (fun hHeld => ?_)
  obtain ⟨wf, hwf⟩ : ∃ wa, we.drew = wa := ⟨_, rfl⟩
  rw [hwf] at hbd hHeld ⊢
  have HBf := Lib.hid (HBe.out.later hbd); have HXf := Lib.hid (HXe.out.later hbd); have HOf := Lib.hid (own_keep HOe.out hbd); have HCf := Lib.hid (HCe.out.then_below hbd)
  have HMf : Hid (LMap wf b n L) := World.ownsMap.kept (row := none) HMe.out ⟨hbd.os, hbd.tape, hbd.output, hbd.size, fun k hk _ => hbd.block k hk⟩ (by simp)
  clear hwf hbd HBe HXe HOe HCe HMe
  rw [HZ.out]
  refine wpAnyH_take (i := 0) (v := ?_) rfl (by kernel_rfl) (by kernel_rfl) (by kernel_rfl) (fun _ _ _ h => h) (Or.inl ⟨by rfl, ?_⟩) (by assumption) ?_
  rotate_left
  · intro w hSw
    (try dsimp only at hSw)
    go_simp
    try with_reducible rfl
  try simp only [Act.put, List.setIfInBounds_toArray, List.set_cons_zero, List.set_cons_succ, List.getElem_toArray, List.getElem_cons_zero, List.getElem_cons_succ]
  refine wpAnyH_take (i := 1) (v := ?_) rfl (by kernel_rfl) (by kernel_rfl) (by kernel_rfl) (fun _ _ _ h => h) (Or.inl ⟨by rfl, ?_⟩) (by assumption) ?_
  rotate_left
  · intro w hSw
    (try dsimp only at hSw)
    go_simp
    try with_reducible rfl
  try simp only [Act.put, List.setIfInBounds_toArray, List.set_cons_zero, List.set_cons_succ, List.getElem_toArray, List.getElem_cons_zero, List.getElem_cons_succ]
  refine wpAnyH_take (i := 2) (v := ?_) rfl (by kernel_rfl) (by kernel_rfl) (by kernel_rfl) (fun _ _ _ h => h) (Or.inl ⟨by rfl, ?_⟩) (by assumption) ?_
  rotate_left
  · intro w hSw
    (try dsimp only at hSw)
    go_simp
    try with_reducible rfl
  try simp only [Act.put, List.setIfInBounds_toArray, List.set_cons_zero, List.set_cons_succ, List.getElem_toArray, List.getElem_cons_zero, List.getElem_cons_succ]
  refine wpAnyH_take (i := 3) (v := ?_) rfl (by kernel_rfl) (by kernel_rfl) (by kernel_rfl) (fun _ _ _ h => h) (Or.inl ⟨by rfl, ?_⟩) (by assumption) ?_
  rotate_left
  · intro w hSw
    have hcell := (rg_mem HSO.out hSw.2).c11
    clear hSw
    go_simp
    try with_reducible rfl
  try simp only [Act.put, List.setIfInBounds_toArray, List.set_cons_zero, List.set_cons_succ, List.getElem_toArray, List.getElem_cons_zero, List.getElem_cons_succ]
  refine wpAnyH_take (i := 4) (v := .agg (List.toArray (dl m))) rfl (by kernel_rfl) (by kernel_rfl) (by kernel_rfl) (fun _ _ _ h => h) (yieldsIf_load_mid (by rfl) _ _ rfl _ _ rfl (dl m) _ (fun w hSw => (Bk.range (pre := []) (post := []) (by simpa using hSw.1) rfl)) Tryd.underlying23 rfl (hdg_size _ HMO.out)) (by assumption) ?_
  try simp only [Act.put, List.setIfInBounds_toArray, List.set_cons_zero, List.set_cons_succ, List.getElem_toArray, List.getElem_cons_zero, List.getElem_cons_succ]
  refine wpAnyH_take (i := 5) (v := ?_) rfl (by kernel_rfl) (by kernel_rfl) (by kernel_rfl) (fun _ _ _ h => h) (Or.inl ⟨by rfl, ?_⟩) (by assumption) ?_
  rotate_left
  · intro w hSw
    (try dsimp only at hSw)
    go_simp
    try with_reducible rfl
  try simp only [Act.put, List.setIfInBounds_toArray, List.set_cons_zero, List.set_cons_succ, List.getElem_toArray, List.getElem_cons_zero, List.getElem_cons_succ]
  have hst := led_store (w := wf) (b := b) (L := L) (e := m) (by rw [HN.out]; exact HMf.out) HMO.out (by rw [HN.out]; omega)
  rw [HN.out] at hst
  obtain ⟨w5, hrun, hm5, hg5⟩ := hst
  refine wpAnyH_ready (rs := [6]) (by kernel_rfl) (by simp) ?_
  refine AllReadyH.cons rfl (fun K hK => ?_) AllReadyH.nil
  rw [if_pos (by rfl)]
  (refine wp_mapU _ _ _ _ rfl _ _ _ rfl rfl rfl w5 hrun ?_)
  refine hK.out _ _ (⟨HXf.out.grown hg5 (by intro h; injection h with h; exact map_ne HMf.out HXf.out h.symm), HBf.out.grown hg5 (by intro h; injection h with h; exact map_ne HMf.out HBf.out h.symm)⟩) (fun hHeld => ?_)
  clear hK K
  try simp only [Act.put, List.getElem_toArray, List.getElem_cons_zero, List.getElem_cons_succ]
  refine wpAnyH_done (by kernel_rfl) ?_ _
  have HO5 : Hid (w5.ownsRow lo 23 8 (.slice A9 (n + 1) c9) (n + 1) (cellsD L ++ dl m)) := World.ownsRow.kept HOf.out hg5 (.inr (Ne.symm (map_apart HMf.out HOf.out)))
  have HB5 := Lib.hid hHeld.2
  have HM5 := Lib.hid hm5
  have HC5 : Hid (Chg w w5 g b (.slice A n c)) := HCf.out.then_grown hg5 (fun q hq => .inr (.inl (by injection hq with hq; exact hq.symm)))
  clear hHeld hrun hm5 hg5
  go_wp2_with fail
  go_ret
  have hlen : (L ++ [m]).length = n + 1 := by rw [List.length_append, HN.out]; rfl
  refine ⟨rfl, _, ⟨HB5.out, ?_, ?_, HGB.out.1, HGB.out.2.1, ?_, ?_⟩, HC5.out, HVd.out⟩
  · rw [hlen, cellsD_app, cellsD_one]; simpa [cellsD] using HO5.out
  · exact HM5.out
  · intro d hd
    rcases List.mem_append.1 hd with hd | hd
    · exact HKO.out d hd
    · rw [List.mem_singleton] at hd; subst hd; exact HMO.out
  · exact List.nodup_append.2 ⟨HKN.out, by simp, fun a ha b hb => by rw [List.mem_singleton] at hb; subst hb; rintro rfl; exact HNM.out ha⟩
end Go.Proofs.YtakfdlokgddaoaaDoor
