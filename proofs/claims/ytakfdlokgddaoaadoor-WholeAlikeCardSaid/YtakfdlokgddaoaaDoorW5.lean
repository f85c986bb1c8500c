/- How far along its chains a message's signature stands. -/
import Derived.Test.YtakfdlokgddaoaaDoorW4
namespace Go.Proofs.YtakfdlokgddaoaaDoor
set_option linter.unusedSimpArgs false
set_option linter.unusedVariables false
open Go.RowKit

def rchK (msg : List Int) (k : Nat) : List Value := (List.range 18).map fun c => .int .i64 (if c < k then (reachI msg c : Int) else 0)
def rchC (msg : List Int) : List Value := (List.range 18).map fun c => .int .i64 (reachI msg c : Int)
theorem rchK_len (msg : List Int) (k : Nat) : (rchK msg k).length = 18 := by simp [rchK]
theorem rchC_len (msg : List Int) : (rchC msg).length = 18 := by simp [rchC]
theorem rchK_all (msg : List Int) : rchK msg 18 = rchC msg := by
  unfold rchK rchC
  refine List.map_congr_left fun c hc => ?_
  rw [if_pos (by simpa using hc)]
theorem rchK_set (msg : List Int) {k : Nat} (hk : k < 18) : (rchK msg k).set k (.int .i64 (reachI msg k : Int)) = rchK msg (k + 1) := by
  refine List.ext_getElem? fun j => ?_
  rw [List.getElem?_set]
  by_cases hj : j < 18
  · by_cases e : k = j
    · subst e
      rw [if_pos rfl, if_pos (by rw [rchK_len]; exact hk)]
      simp [rchK, hk]
    · rw [if_neg e]
      simp only [rchK, List.getElem?_map, List.getElem?_range hj, Option.map_some]
      congr 2
      by_cases h1 : j < k
      · rw [if_pos h1, if_pos (by omega)]
      · rw [if_neg h1, if_neg (by omega)]
  · by_cases e : k = j
    · omega
    · rw [if_neg e, List.getElem?_eq_none (by rw [rchK_len]; omega), List.getElem?_eq_none (by rw [rchK_len]; omega)]
theorem set_parts {α : Type} {xs : List α} {j : Nat} {v : α} (hj : j < xs.length) : xs.take j ++ ([v] ++ xs.drop (j + 1)) = xs.set j v := by
  rw [List.set_eq_take_append_cons_drop, if_pos hj]; rfl
theorem get_parts {α : Type} {xs : List α} {j : Nat} {x : α} (hx : xs[j]? = some x) : xs.take j ++ ([x] ++ xs.drop (j + 1)) = xs := by
  have hj := (List.getElem?_eq_some_iff.1 hx).1
  rw [set_parts hj]
  refine List.ext_getElem? fun i => ?_
  rw [List.getElem?_set]
  by_cases e : j = i
  · subst e; rw [if_pos rfl, if_pos hj, hx]
  · rw [if_neg e]
theorem rchK_get (msg : List Int) {k : Nat} (hk : k < 18) : (rchK msg k)[k]? = some (.int .i64 0) := by simp [rchK, hk]
theorem lackM_snoc : ∀ (l : List Int) (b : Int), lackM (l ++ [b]) = lackM l + (30 - b % 16 - b / 16)
  | [], b => by simp [lackM]
  | x :: l, b => by rw [List.cons_append, lackM, lackM_snoc l b, lackM]; omega
theorem reach_lo {msg : List Int} {k : Nat} {b : Int} (hb : msg[k]? = some b) (hk : k < 8) (h0 : 0 ≤ b) : (reachI msg (2 * k) : Int) = b % 16 := by
  have : msg.getD k 0 = b := by rw [List.getD_eq_getElem?_getD, hb]; rfl
  rw [reachI, if_pos (by omega), if_pos (by omega), show 2 * k / 2 = k by omega, this]; omega
theorem reach_hi {msg : List Int} {k : Nat} {b : Int} (hb : msg[k]? = some b) (hk : k < 8) (h0 : 0 ≤ b) : (reachI msg (2 * k + 1) : Int) = b / 16 := by
  have : msg.getD k 0 = b := by rw [List.getD_eq_getElem?_getD, hb]; rfl
  rw [reachI, if_pos (by omega), if_neg (by omega), show (2 * k + 1) / 2 = k by omega, this]; omega
theorem a18_size : (Tryd.prog.info? 124).map (·.size) = some 18 := by kernel_rfl
theorem rch_one (xs : List Int) : ∀ v ∈ xs.map (Value.int .i64), v.oneCell' = true := ints_one _ _
theorem rchK_zero (msg : List Int) : rchK msg 0 = (#[.int .i64 0, .int .i64 0, .int .i64 0, .int .i64 0, .int .i64 0, .int .i64 0, .int .i64 0, .int .i64 0, .int .i64 0, .int .i64 0, .int .i64 0, .int .i64 0, .int .i64 0, .int .i64 0, .int .i64 0, .int .i64 0, .int .i64 0, .int .i64 0] : Array Value).toList := by simp [rchK, List.range, List.range.loop]
theorem rchC_one (msg : List Int) : ∀ v ∈ rchC msg, v.oneCell' = true := by
  intro v hv
  obtain ⟨c, _, rfl⟩ := List.mem_map.1 hv
  rfl
set_option maxRecDepth 20000 in
set_option maxHeartbeats 4000000 in
theorem reach_any (w : World) (msg : List Int) (hm : DgOk msg) :
    Calls Tryd.prog 65 #[.agg (dl msg).toArray] w fun e w' => e = .returned (.agg (rchC msg).toArray) ∧ Below w.heap.size w w' := by
  have hidx : ∀ (k : Nat) (b : Int), msg[k]? = some b → ∀ w, (Instr.index 23 (.agg (dl msg).toArray) (.int .i64 (k : Int))).run Tryd.prog w = .ok (.int .u8 b) w := fun k b hb w =>
    run_index_row 23 5 8 _ .i64 k _ Tryd.underlying23 (by kernel_rfl) (by rw [← hm.len]; exact (List.getElem?_eq_some_iff.1 hb).1) (by rw [show (dl msg).toArray = dgA msg from rfl, dgA_get, hb]; rfl) (fun w => by simp [isAgg, run_underlying Tryd.underlying5]) w
  obtain ⟨X, hX⟩ : ∃ X, (dl msg).toArray = X := ⟨_, rfl⟩
  obtain ⟨z, hz⟩ : ∃ z, w.heap.size = z := ⟨_, rfl⟩
  obtain ⟨w1, hw1⟩ : ∃ w1, (w.alloc (.cells X 23)).alloc (.cells #[.int .i64 0, .int .i64 0, .int .i64 0, .int .i64 0, .int .i64 0, .int .i64 0, .int .i64 0, .int .i64 0, .int .i64 0, .int .i64 0, .int .i64 0, .int .i64 0, .int .i64 0, .int .i64 0, .int .i64 0, .int .i64 0, .int .i64 0, .int .i64 0] 124) = w1 := ⟨_, rfl⟩
  have hb1 : Below w.heap.size w w1 := hw1 ▸ (below_new w _).alloc (by simp) _
  have kx : Bk w1 z 23 (dl msg) := hw1 ▸ (Bk.at_ w _ X hz (by rw [← hX])).alloc _
  have kr : Bk w1 (z + 1) 124 (rchK msg 0) := hw1 ▸ Bk.at_ _ _ #[.int .i64 0, .int .i64 0, .int .i64 0, .int .i64 0, .int .i64 0, .int .i64 0, .int .i64 0, .int .i64 0, .int .i64 0, .int .i64 0, .int .i64 0, .int .i64 0, .int .i64 0, .int .i64 0, .int .i64 0, .int .i64 0, .int .i64 0, .int .i64 0] (by simp [hz]) (rchK_zero msg).symm
  obtain ⟨gd, hgd⟩ : ∃ g, w1.heap.size = g := ⟨_, rfl⟩
  obtain ⟨w2, hw2⟩ : ∃ x, w1.alloc (.cells #[.int .i64 0, .int .i64 0, .int .i64 0, .int .i64 0, .int .i64 0, .int .i64 0, .int .i64 0, .int .i64 0, .int .i64 0, .int .i64 0, .int .i64 0, .int .i64 0, .int .i64 0, .int .i64 0, .int .i64 0, .int .i64 0, .int .i64 0, .int .i64 0] 124) = x := ⟨_, rfl⟩
  have hbn : Below w1.heap.size w1 w2 := hw2 ▸ below_new w1 _
  have kd : Bk w2 gd 124 (rchK msg 0) := hw2 ▸ Bk.at_ w1 _ #[.int .i64 0, .int .i64 0, .int .i64 0, .int .i64 0, .int .i64 0, .int .i64 0, .int .i64 0, .int .i64 0, .int .i64 0, .int .i64 0, .int .i64 0, .int .i64 0, .int .i64 0, .int .i64 0, .int .i64 0, .int .i64 0, .int .i64 0, .int .i64 0] hgd (rchK_zero msg).symm
  have HW := Lib.hid hw1; have HZ := Lib.hid hz; have HIX := Lib.hid hidx; have HMO := Lib.hid hm; have HXE := Lib.hid hX
  have HR2 := Lib.hid (kr.later hbn); have HD2 := Lib.hid kd; have HB2 := Lib.hid (below_then hb1 hbn); have HK2 := Lib.hid (kx.later hbn)
  have HGD : Hid (z + 1 < gd) := by have := kr.lt; show z + 1 < gd; omega
  have HW2 := Lib.hid hw2; have HGW := Lib.hid hgd
  rw [hX] at hidx HIX ⊢
  clear hX hw1 hb1 kx kr hz hm hidx hgd hw2 hbn kd
  go_enter Tryd.func65, Tryd.ntmps65
  go_upto_region 1 with fail
  rw [HW.out, HZ.out]
  go_upto_region 2 with fail
  rw [HW2.out, HGW.out]
  go_wp2_with (with_reducible refine wpList_load_bk rfl 23 _ rfl z rfl (dl msg) 23 HK2.out _ Tryd.underlying23 rfl (hdg_size _ HMO.out) ?_)
  rw [HXE.out]
  go_loopw [4, 5, 6, 7, 8, 10] (fun lv _ _ _ _ kv wr => ∃ k : Nat, k ≤ 8 ∧ kv = .int .i64 k ∧ lv = .int .i64 (lackM (msg.take k)) ∧ Hid (Bk wr gd 124 (rchK msg (2 * k))) ∧ Hid (Bk wr (z + 1) 124 (rchK msg 0)) ∧ Hid (Below w.heap.size w wr)) (fun _ _ _ _ _ kv _ => 8 - (intOf kv).toNat)
  case atStart => exact ⟨0, Nat.zero_le _, rfl, rfl, HD2, HR2, HB2⟩
  case round =>
    obtain ⟨k, hk, rfl, rfl, HDr, HRr, HBr⟩ := hrel
    by_cases hlt : k < 8
    · have hki : (k : Int) < 8 := by omega
      have hk0 : (0 : Int) ≤ k := by omega
      obtain ⟨b, hb⟩ : ∃ b, msg[k]? = some b := ⟨msg[k]'(by rw [HMO.out.len]; exact hlt), List.getElem?_eq_getElem _⟩
      have hx := HIX.out k b hb
      have b01 := HMO.out.byt b (List.mem_of_getElem? hb)
      obtain ⟨lo, hlo⟩ : ∃ x, b.tmod 16 = x := ⟨_, rfl⟩
      obtain ⟨hi, hhi⟩ : ∃ x, b.tdiv 16 = x := ⟨_, rfl⟩
      have e1 : lo = b % 16 := by rw [← hlo, Int.tmod_eq_emod_of_nonneg b01.1]
      have e2 : hi = b / 16 := by rw [← hhi, Int.tdiv_eq_ediv_of_nonneg b01.1]
      have HLO : Hid ((reachI msg (2 * k) : Int) = lo) := by show _ = _; rw [reach_lo hb hlt b01.1, e1]
      have HHI : Hid ((reachI msg (2 * k + 1) : Int) = hi) := by show _ = _; rw [reach_hi hb hlt b01.1, e2]
      have hlr := lackM_rng (msg.take k) (HMO.out.byt.take k)
      have htl : (msg.take k).length ≤ 8 := by rw [List.length_take]; omega
      have HSN : Hid (lackM (msg.take (k + 1)) = lackM (msg.take k) + (30 - lo - hi)) := by show _ = _; rw [take_snoc hb, lackM_snoc, e1, e2]
      obtain ⟨lk, hlk⟩ : ∃ x, lackM (msg.take k) = x := ⟨_, rfl⟩
      rw [hlk] at HSN hlr ⊢
      have w1 : wrap64 b = b := IntWalk.wrap64_in _ (by omega)
      have w3 : wrap64 hi = hi := IntWalk.wrap64_in _ (by omega)
      have w4 : wrap64 (2 * (k : Int)) = 2 * k := IntWalk.wrap64_in _ (by omega)
      have w5 : wrap64 (2 * (k : Int) + 1) = 2 * k + 1 := IntWalk.wrap64_in _ (by omega)
      have w6 : wrap64 (30 - lo) = 30 - lo := IntWalk.wrap64_in _ (by omega)
      have w7 : wrap64 (30 - lo - hi) = 30 - lo - hi := IntWalk.wrap64_in _ (by omega)
      have w8 : wrap64 (lk + (30 - lo - hi)) = lk + (30 - lo - hi) := IntWalk.wrap64_in _ (by omega)
      have hq1 : 2 * (k : Int) < 18 := by omega
      have hq2 : 2 * (k : Int) + 1 < 18 := by omega
      have hq18 : 2 * k < 18 := by omega
      have hq19 : 2 * k + 1 < 18 := by omega
      clear hb hlk e1 e2 hlr htl
      go_wp2_with (with_reducible refine stop_store 3 _ _ rfl ?_)
      rw [w3]
      refine StopD.go ?_
      refine wpList_store_part rfl 3 _ _ rfl gd (2 * k) (.int .i64 lo) [.int .i64 lo] rfl rfl rfl 124 ((rchK msg (2 * k)).take (2 * k)) [.int .i64 0] ((rchK msg (2 * k)).drop ((2 * k) + 1)) (by rw [get_parts (rchK_get msg hq18)]; exact HDr.out) (by rw [List.length_take, rchK_len]; have := hq18; omega) rfl (by kernel_rfl) (by intro x hx; simp at hx; subst hx; rfl) ?_
      intro w4 hp
      have HD4 : Hid (Bk w4 gd 124 (rchK msg ((2 * k) + 1))) := by show Bk _ _ _ _; rw [← rchK_set msg hq18, ← set_parts (by rw [rchK_len]; exact hq18), HLO.out]; exact hp.bk
      have HR4 := Lib.hid (HRr.out.grown hp.only (by intro e; injection e with e; have := HGD.out; omega)); have HB4 := Lib.hid (below_only HBr.out hp.only HBr.out.size (by have := HGD.out; have := HZ.out; omega))
      clear hp HDr HRr HBr
      go_wp2_with (with_reducible refine stop_store 3 _ _ rfl ?_)
      refine StopD.go ?_
      refine wpList_store_part rfl 3 _ _ rfl gd (2 * k + 1) (.int .i64 hi) [.int .i64 hi] rfl rfl rfl 124 ((rchK msg (2 * k + 1)).take (2 * k + 1)) [.int .i64 0] ((rchK msg (2 * k + 1)).drop ((2 * k + 1) + 1)) (by rw [get_parts (rchK_get msg hq19)]; exact HD4.out) (by rw [List.length_take, rchK_len]; have := hq19; omega) rfl (by kernel_rfl) (by intro x hx; simp at hx; subst hx; rfl) ?_
      intro w5 hp
      have HD5 : Hid (Bk w5 gd 124 (rchK msg ((2 * k + 1) + 1))) := by show Bk _ _ _ _; rw [← rchK_set msg hq19, ← set_parts (by rw [rchK_len]; exact hq19), HHI.out]; exact hp.bk
      have HR5 := Lib.hid (HR4.out.grown hp.only (by intro e; injection e with e; have := HGD.out; omega)); have HB5 := Lib.hid (below_only HB4.out hp.only HB4.out.size (by have := HGD.out; have := HZ.out; omega))
      clear hp HD4 HR4 HB4
      go_wp2_with fail
      go_roundw
      case rel => exact ⟨k + 1, hlt, by go_num, by rw [HSN.out, w8], HD5, HR5, HB5⟩
      case measure => simp [intOf]; omega
    · have hki : ¬ ((k : Int) < 8) := by omega
      obtain rfl : k = 8 := by omega
      have hlr := lackM_rng msg HMO.out.byt
      rw [HMO.out.len] at hlr
      have htk : msg.take 8 = msg := List.take_of_length_le (by rw [HMO.out.len]; exact Nat.le_refl _)
      rw [htk]
      have r16 : (reachI msg 16 : Int) = lackM msg % 16 := by rw [reachI, if_neg (by omega), if_pos rfl]; omega
      have r17 : (reachI msg 17 : Int) = lackM msg / 16 := by rw [reachI, if_neg (by omega), if_neg (by omega)]; omega
      obtain ⟨lk, hlk⟩ : ∃ x, lackM msg = x := ⟨_, rfl⟩
      rw [hlk] at hlr r16 r17 ⊢
      obtain ⟨lo, hlo⟩ : ∃ x, lk.tmod 16 = x := ⟨_, rfl⟩
      obtain ⟨hi, hhi⟩ : ∃ x, lk.tdiv 16 = x := ⟨_, rfl⟩
      have e1 : lo = lk % 16 := by rw [← hlo, Int.tmod_eq_emod_of_nonneg hlr.1]
      have e2 : hi = lk / 16 := by rw [← hhi, Int.tdiv_eq_ediv_of_nonneg hlr.1]
      have HLO : Hid ((reachI msg 16 : Int) = lo) := by show _ = _; rw [r16, e1]
      have HHI : Hid ((reachI msg 17 : Int) = hi) := by show _ = _; rw [r17, e2]
      have w3 : wrap64 hi = hi := IntWalk.wrap64_in _ (by omega)
      have hq18 : 16 < 18 := by omega
      have hq19 : 17 < 18 := by omega
      clear e1 e2 hlr r16 r17 hlk htk
      go_wp2_with (with_reducible refine stop_store 3 _ _ rfl ?_)
      try rw [w3]
      refine StopD.go ?_
      refine wpList_store_part rfl 3 _ _ rfl gd 16 (.int .i64 lo) [.int .i64 lo] rfl rfl rfl 124 ((rchK msg 16).take 16) [.int .i64 0] ((rchK msg 16).drop (16 + 1)) (by rw [get_parts (rchK_get msg hq18)]; exact HDr.out) (by rw [List.length_take, rchK_len]; have := hq18; omega) rfl (by kernel_rfl) (by intro x hx; simp at hx; subst hx; rfl) ?_
      intro w4 hp
      have HD4 : Hid (Bk w4 gd 124 (rchK msg (16 + 1))) := by show Bk _ _ _ _; rw [← rchK_set msg hq18, ← set_parts (by rw [rchK_len]; exact hq18), HLO.out]; exact hp.bk
      have HR4 := Lib.hid (HRr.out.grown hp.only (by intro e; injection e with e; have := HGD.out; omega)); have HB4 := Lib.hid (below_only HBr.out hp.only HBr.out.size (by have := HGD.out; have := HZ.out; omega))
      clear hp HDr HRr HBr
      go_wp2_with (with_reducible refine stop_store 3 _ _ rfl ?_)
      refine StopD.go ?_
      refine wpList_store_part rfl 3 _ _ rfl gd 17 (.int .i64 hi) [.int .i64 hi] rfl rfl rfl 124 ((rchK msg 17).take 17) [.int .i64 0] ((rchK msg 17).drop (17 + 1)) (by rw [get_parts (rchK_get msg hq19)]; exact HD4.out) (by rw [List.length_take, rchK_len]; have := hq19; omega) rfl (by kernel_rfl) (by intro x hx; simp at hx; subst hx; rfl) ?_
      intro w5 hp
      have HD5 : Hid (Bk w5 gd 124 (rchK msg (17 + 1))) := by show Bk _ _ _ _; rw [← rchK_set msg hq19, ← set_parts (by rw [rchK_len]; exact hq19), HHI.out]; exact hp.bk
      have HR5 := Lib.hid (HR4.out.grown hp.only (by intro e; injection e with e; have := HGD.out; omega)); have HB5 := Lib.hid (below_only HB4.out hp.only HB4.out.size (by have := HGD.out; have := HZ.out; omega))
      clear hp HD4 HR4 HB4
      have HD6 : Hid (Bk w5 gd 124 (rchC msg)) := by show Bk _ _ _ _; rw [← rchK_all]; exact HD5.out
      have HSZ : Hid ((Tryd.prog.info? 124).map (·.size) = some (rchC msg).length) := by show _ = _; rw [rchC_len]; exact a18_size
      have HRO := Lib.hid (rchC_one msg); have HRL := Lib.hid (rchC_len msg)
      obtain ⟨R, hR⟩ : ∃ x, rchC msg = x := ⟨_, rfl⟩
      have HRE := Lib.hid hR
      rw [hR] at HD6 HSZ HRO HRL
      clear HD5 hR
      go_wp2_with (first
        | (with_reducible refine wpList_load_bk rfl 124 _ rfl gd rfl R 124 HD6.out _ Tryd.underlying124 rfl HSZ.out ?_)
        | (with_reducible refine stop_store 124 _ _ rfl ?_))
      refine StopD.go ?_
      refine wpList_store_part rfl 124 _ _ rfl (z + 1) 0 (.agg R.toArray) R rfl rfl rfl 124 [] (rchK msg 0) [] (by simpa using HR5.out) rfl (by rw [rchK_len, HRL.out]) HSZ.out HRO.out ?_
      intro wz hp
      have HTz : Hid (Bk wz (z + 1) 124 R) := by show Bk _ _ _ _; have := hp.bk; simpa using this
      have HBz := Lib.hid (below_only HB5.out hp.only HB5.out.size (by have := HZ.out; omega))
      clear hp
      go_wp2_with fail
      refine bodyPost_ret (results_cell_bk rfl _ _ (z + 1) 124 R _ rfl HTz.out Tryd.underlying124 rfl HSZ.out) rfl ?_
      exact ⟨by rw [HRE.out], HBz.out⟩
end Go.Proofs.YtakfdlokgddaoaaDoor
