/- Which key a signature is by; a signature. -/
import Derived.Test.YtakfdlokgddaoaaDoorW5
namespace Go.Proofs.YtakfdlokgddaoaaDoor
set_option linter.unusedSimpArgs false
set_option linter.unusedVariables false
open Go.RowKit

theorem piece_eight (bs : List Int) (c : Nat) : pieceI bs c = eightI bs c := by unfold pieceI eightI; rw [Nat.mul_comm]
set_option maxRecDepth 20000 in
set_option maxHeartbeats 1000000 in
theorem piece_any (w : World) (A : Option Addr) (cc : Nat) (bs : List Int) (hs : Sl w w.heap.size 1 A 144 (bs.map (.int .u8))) (hb : ByOk bs) (hcc : 144 ≤ cc) (c : Nat) (hc : c < 18) :
    Calls Tryd.prog 67 #[.slice A 144 cc, .int .i64 c] w fun e w' => e = .returned (.agg (dl (pieceI bs c)).toArray) ∧ Below w.heap.size w w' := by
  have hlen := hs.length
  obtain ⟨z, hz⟩ : ∃ z, w.heap.size = z := ⟨_, rfl⟩
  obtain ⟨w1, hw1⟩ : ∃ w1, w.alloc (.cells #[.int .u8 0, .int .u8 0, .int .u8 0, .int .u8 0, .int .u8 0, .int .u8 0, .int .u8 0, .int .u8 0] 23) = w1 := ⟨_, rfl⟩
  have hb1 : Below w.heap.size w w1 := hw1 ▸ below_new w _
  have kr : Bk w1 z 23 ([] ++ (dl zeroD ++ [])) := hw1 ▸ Bk.at_ w _ #[.int .u8 0, .int .u8 0, .int .u8 0, .int .u8 0, .int .u8 0, .int .u8 0, .int .u8 0, .int .u8 0] hz rfl
  obtain ⟨b, o, rfl, hbb, _⟩ := (hs.later hb1).spot (by omega) (by omega)
  have hr := sl_range (hs.later hb1) (k := c) (by omega)
  have hok := eight_ok hb (k := c) (by rw [hlen]; omega)
  rw [piece_eight]
  have h8 : (c + 1) * 8 - c * 8 = 8 := by omega
  have har : ∀ w, (Instr.arrayAt 23 (.slice (some ⟨b, o + c * 8, none⟩) ((c + 1) * 8 - c * 8) (cc - c * 8))).run Tryd.prog w = .ok (.pointer (some ⟨b, o + c * 8, none⟩)) w := fun w => by rw [h8]; exact run_arrayAt_eight _ _ w
  clear h8
  obtain ⟨T, hT⟩ : ∃ T, eightI bs c = T := ⟨_, rfl⟩
  rw [hT] at hr hok ⊢
  have HW := Lib.hid hw1; have HB1 := Lib.hid hb1; have HZ := Lib.hid hz; have HR1 := Lib.hid kr; have HG : Hid (w1.rangeAt b (o + c * 8) (dl T)) := hr; have HDO := Lib.hid hok
  clear hw1 hb1 kr hz hs hb hr hok hT hlen
  have hc1 : (c : Int) < 18 := by omega
  have hc0 : (0 : Int) ≤ c := by omega
  go_enter Tryd.func67, Tryd.ntmps67
  go_upto_region 1 with fail
  rw [HW.out, HZ.out]
  go_wp2_with (first
    | (with_reducible refine wpList_load_mid rfl 23 _ rfl b (o + c * 8) rfl (dl T) _ HG.out Tryd.underlying23 rfl (hdg_size _ HDO.out) ?_)
    | (with_reducible refine stop_store 23 _ _ rfl ?_))
  refine StopD.go ?_
  refine wpList_store_part rfl 23 _ _ rfl z 0 (.agg (dl T).toArray) (dl T) rfl rfl rfl 23 [] (dl zeroD) [] HR1.out rfl (dg_lensw HDO.out) (hdg_size _ HDO.out) (dl_one' _) ?_
  intro wz hp
  have HTz : Hid (Bk wz z 23 (dl T)) := by show Bk _ _ _ _; have := hp.bk; simpa using this
  have HBz := Lib.hid (below_only HB1.out hp.only HB1.out.size (Nat.le_of_eq HZ.out))
  clear hp har
  go_wp2_with fail
  refine bodyPost_ret (results_cell_bk rfl _ _ z 23 (dl T) _ rfl HTz.out Tryd.underlying23 rfl (hdg_size _ HDO.out)) rfl ?_
  exact ⟨rfl, HBz.out⟩
theorem pieceI_ok {bs : List Int} (hb : ByOk bs) (hl : bs.length = 144) {c : Nat} (hc : c < 18) : DgOk (pieceI bs c) := by
  rw [piece_eight]; exact eight_ok hb (by omega)
set_option maxRecDepth 20000 in
set_option maxHeartbeats 2000000 in
theorem told1_any (w : World) (zs gd : Nat) (A : Option Addr) (cc : Nat) (bs msg : List Int) (hm : DgOk msg) (hk : Bk w zs 29 [.slice A 144 cc]) (R : List Value) (hR : ∀ c, c < 18 → R[c]? = some (.int .i64 (reachI msg c : Int))) (hd : Bk w gd 124 R) (hs : Sl w w.heap.size 1 A 144 (bs.map (.int .u8))) (hb : ByOk bs) (hcc : 144 ≤ cc) (c : Nat) (hc : c < 18) :
    Calls Tryd.prog 66 (#[.int .i64 c] ++ #[.pointer (some ⟨zs, 0, none⟩), .pointer (some ⟨gd, 0, none⟩)]) w (fun e w' => e = .returned (.agg (dl (chainI (15 - reachI msg c) (pieceI bs c))).toArray) ∧ Below w.heap.size w w') := by
  have hlen := hs.length
  obtain ⟨y, hy⟩ : ∃ z, w.heap.size = z := ⟨_, rfl⟩
  obtain ⟨w1, hw1⟩ : ∃ w1, w.alloc (.cells #[.int .u8 0, .int .u8 0, .int .u8 0, .int .u8 0, .int .u8 0, .int .u8 0, .int .u8 0, .int .u8 0] 23) = w1 := ⟨_, rfl⟩
  have hb1 : Below w.heap.size w w1 := hw1 ▸ below_new w _
  have kr : Bk w1 y 23 ([] ++ (dl zeroD ++ [])) := hw1 ▸ Bk.at_ w _ #[.int .u8 0, .int .u8 0, .int .u8 0, .int .u8 0, .int .u8 0, .int .u8 0, .int .u8 0, .int .u8 0] hy rfl
  have HW := Lib.hid hw1; have HB1 := Lib.hid hb1; have HY := Lib.hid hy; have HR1 := Lib.hid kr; have HK1 := Lib.hid (hk.later hb1); have HD1 := Lib.hid (hd.later hb1); have HS1 := Lib.hid (hs.later hb1)
  have HYL : Hid (zs < y ∧ gd < y) := by have := hk.lt; have := hd.lt; show _ ∧ _; omega
  have HPC := Lib.hid (fun w' (hs' : Sl w' w'.heap.size 1 A 144 (bs.map (.int .u8))) => piece_any w' A cc bs hs' hb hcc c hc)
  have HPO := Lib.hid (pieceI_ok hb hlen hc)
  have HGC : Hid (∀ w', Bk w' gd 124 R → w'.cell? ⟨gd, c, none⟩ = some (.int .i64 (reachI msg c : Int))) := fun w' h => by rw [h.cell]; exact hR c hc
  have hrl := reachI_le hm c
  obtain ⟨r, hr⟩ : ∃ r, reachI msg c = r := ⟨_, rfl⟩
  obtain ⟨q, hq⟩ : ∃ q, 15 - r = q := ⟨_, rfl⟩
  rw [hr] at HGC hrl ⊢
  rw [hq]
  have hwq : wrap64 (15 - (r : Int)) = (q : Int) := by rw [IntWalk.wrap64_in _ (by omega)]; omega
  have hwq2 : (15 - (r : Int)) = (q : Int) := by omega
  have hwq4 : IntKind.i64.wrap (q : Int) = q := IntWalk.i64_in _ (by omega)
  have hwq5 : IntKind.i64.wrap (15 - (r : Int)) = q := by rw [IntWalk.i64_in _ (by omega)]; omega
  obtain ⟨P, hP⟩ : ∃ P, pieceI bs c = P := ⟨_, rfl⟩
  rw [hP] at HPC HPO ⊢
  have HCH := Lib.hid (fun w' => chain_any w' P HPO.out q (by omega))
  have HDO := Lib.hid (chainI_ok HPO.out q)
  obtain ⟨T, hT⟩ : ∃ T, chainI q P = T := ⟨_, rfl⟩
  rw [hT] at HCH HDO ⊢
  have hc1 : (c : Int) < 18 := by omega
  have hc0 : (0 : Int) ≤ c := by omega
  clear hw1 hb1 kr hy hk hd hs hb hP hT hr hq hlen hrl hm hR
  show Calls _ _ #[.int .i64 c, .pointer (some ⟨zs, 0, none⟩), .pointer (some ⟨gd, 0, none⟩)] _ _
  go_enter Tryd.func66, Tryd.ntmps66
  go_upto_region 1 with fail
  rw [HW.out, HY.out]
  refine wp_region_held_drew (S := fun w' => Bk w' zs 29 [.slice A 144 cc] ∧ Bk w' gd 124 R) (by kernel_rfl) ⟨Bk.drew HK1.out, Bk.drew HD1.out⟩ (fun hHeld => ?_)
  have hbd : Below w1.heap.size w1 w1.drew := below_draws w1 w1.heap.size 1
  obtain ⟨wa, hwa⟩ : ∃ wa, w1.drew = wa := ⟨_, rfl⟩
  rw [hwa] at hbd hHeld ⊢
  have HKa := Lib.hid (HK1.out.later hbd); have HDa := Lib.hid (HD1.out.later hbd); have HRa := Lib.hid (HR1.out.later hbd); have HSa := Lib.hid (HS1.out.later hbd); have HBa := Lib.hid (below_then HB1.out hbd)
  clear hwa hbd HK1 HD1 HR1 HS1 HB1
  refine wpAnyH_take (i := 0) (v := ?_) rfl (by kernel_rfl) (by kernel_rfl) (by kernel_rfl) (fun _ _ _ h => h) (Or.inl ⟨by rfl, ?_⟩) (by assumption) ?_
  rotate_left
  · intro w hSw
    have hcell := (one_cell hSw.1)
    clear hSw
    go_simp
    try with_reducible rfl
  try simp only [Act.put, List.setIfInBounds_toArray, List.set_cons_zero, List.set_cons_succ, List.getElem_toArray, List.getElem_cons_zero, List.getElem_cons_succ]
  refine wpAnyH_take (i := 1) (v := ?_) rfl (by kernel_rfl) (by kernel_rfl) (by kernel_rfl) (fun _ _ _ h => h) (Or.inl ⟨by rfl, ?_⟩) (by assumption) ?_
  rotate_left
  · intro w hSw
    (try dsimp only at hSw)
    go_simp
    try with_reducible rfl
  try simp only [Act.put, List.setIfInBounds_toArray, List.set_cons_zero, List.set_cons_succ, List.getElem_toArray, List.getElem_cons_zero, List.getElem_cons_succ]
  refine wpAnyH_take (i := 3) (v := ?_) rfl (by kernel_rfl) (by kernel_rfl) (by kernel_rfl) (fun _ _ _ h => h) (Or.inl ⟨by rfl, ?_⟩) (by assumption) ?_
  rotate_left
  · intro w hSw
    (try dsimp only at hSw)
    go_simp
    try with_reducible rfl
  try simp only [Act.put, List.setIfInBounds_toArray, List.set_cons_zero, List.set_cons_succ, List.getElem_toArray, List.getElem_cons_zero, List.getElem_cons_succ]
  refine wpAnyH_take (i := 4) (v := ?_) rfl (by kernel_rfl) (by kernel_rfl) (by kernel_rfl) (fun _ _ _ h => h) (Or.inl ⟨by rfl, ?_⟩) (by assumption) ?_
  rotate_left
  · intro w hSw
    (try dsimp only at hSw)
    go_simp
    try with_reducible rfl
  try simp only [Act.put, List.setIfInBounds_toArray, List.set_cons_zero, List.set_cons_succ, List.getElem_toArray, List.getElem_cons_zero, List.getElem_cons_succ]
  refine wpAnyH_take (i := 5) (v := ?_) rfl (by kernel_rfl) (by kernel_rfl) (by kernel_rfl) (fun _ _ _ h => h) (Or.inl ⟨by rfl, ?_⟩) (by assumption) ?_
  rotate_left
  · intro w hSw
    have hcell := (HGC.out _ hSw.2)
    clear hSw
    go_simp
    try with_reducible rfl
  try simp only [Act.put, List.setIfInBounds_toArray, List.set_cons_zero, List.set_cons_succ, List.getElem_toArray, List.getElem_cons_zero, List.getElem_cons_succ]
  refine wpAnyH_take (i := 6) (v := ?_) rfl (by kernel_rfl) (by kernel_rfl) (by kernel_rfl) (fun _ _ _ h => h) (Or.inl ⟨by rfl, ?_⟩) (by assumption) ?_
  rotate_left
  · intro w hSw
    (try dsimp only at hSw)
    go_simp
    try with_reducible rfl
  try simp only [Act.put, List.setIfInBounds_toArray, List.set_cons_zero, List.set_cons_succ, List.getElem_toArray, List.getElem_cons_zero, List.getElem_cons_succ]
  refine wpAnyH_ready (rs := [2]) (by kernel_rfl) (by simp) ?_
  refine AllReadyH.cons rfl (fun K hK => ?_) AllReadyH.nil
  go_simp
  (refine (HPC.out wa HSa.out).mono ?_; rintro e wb ⟨rfl, hbn⟩; have HKb := Lib.hid (HKa.out.later hbn); have HDb := Lib.hid (HDa.out.later hbn); have HRb := Lib.hid (HRa.out.later hbn); have HBb := Lib.hid (below_then HBa.out hbn); clear hbn HKa HDa HRa HSa HBa)
  refine hK.out _ _ (⟨HKb.out, HDb.out⟩) (fun hHeld => ?_)
  clear hK K
  try simp only [Act.put, List.setIfInBounds_toArray, List.set_cons_zero, List.set_cons_succ, List.getElem_toArray, List.getElem_cons_zero, List.getElem_cons_succ]
  refine wpAnyH_ready (rs := [7]) (by kernel_rfl) (by simp) ?_
  refine AllReadyH.cons rfl (fun K hK => ?_) AllReadyH.nil
  go_simp
  (refine (HCH.out wb).mono ?_; rintro e wc ⟨rfl, hbn⟩; have HKc := Lib.hid (HKb.out.later hbn); have HDc := Lib.hid (HDb.out.later hbn); have HRc := Lib.hid (HRb.out.later hbn); have HBc := Lib.hid (below_then HBb.out hbn); clear hbn HKb HDb HRb HBb)
  refine hK.out _ _ (⟨HKc.out, HDc.out⟩) (fun hHeld => ?_)
  clear hK K
  try simp only [Act.put, List.setIfInBounds_toArray, List.set_cons_zero, List.set_cons_succ, List.getElem_toArray, List.getElem_cons_zero, List.getElem_cons_succ]
  refine wpAnyH_ready (rs := [8]) (by kernel_rfl) (by simp) ?_
  refine AllReadyH.cons rfl (fun K hK => ?_) AllReadyH.nil
  rw [if_pos (by rfl)]
  refine wp_store_part _ _ _ rfl y 0 _ (dl T) rfl rfl rfl _ ([]) (dl zeroD) ([]) HRc.out rfl (dg_lensw HDO.out) (hdg_size _ HDO.out) (dl_one' _) ?_
  intro wd hp
  refine hK.out _ _ ⟨HKc.out.grown hp.only (by intro h; injection h with h; have := HYL.out; omega), HDc.out.grown hp.only (by intro h; injection h with h; have := HYL.out; omega)⟩ (fun hHeld => ?_)
  clear hK K
  try simp only [Act.put, List.setIfInBounds_toArray, List.set_cons_zero, List.set_cons_succ, List.getElem_toArray, List.getElem_cons_zero, List.getElem_cons_succ]
  refine wpAnyH_done rfl ?_ _
  have HTz : Hid (Bk wd y 23 (dl T)) := by show Bk _ _ _ _; have := hp.bk; simpa using this
  have HBz := Lib.hid (below_only HBc.out hp.only HBc.out.size (Nat.le_of_eq HY.out))
  clear hp
  go_wp2_with fail
  refine bodyPost_ret (results_cell_bk rfl _ _ y 23 (dl T) _ rfl HTz.out Tryd.underlying23 rfl (hdg_size _ HDO.out)) rfl ?_
  exact ⟨rfl, HBz.out⟩
end Go.Proofs.YtakfdlokgddaoaaDoor
