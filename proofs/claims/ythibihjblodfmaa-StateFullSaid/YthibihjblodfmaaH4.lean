/- Digests and their numbers: the program's and the document's. -/
import Derived.Test.YthibihjblodfmaaH3
import Derived.Laws.CopyOwn
namespace Go.Proofs.Ythibihjblodfmaa
open Go.RowKit

theorem dgA_size (ds : List Int) : (dgA ds).size = ds.length := by simp [dgA]
theorem dgA_get (ds : List Int) (k : Nat) : (dgA ds)[k]? = ds[k]?.map (Value.int .u8) := by simp [dgA]
theorem dgA_list (ds : List Int) : (dgA ds).toList = ds.map (Value.int .u8) := by simp [dgA]
theorem dgA_one (ds : List Int) : (dgA ds).all (·.oneCell') = true := by
  unfold dgA
  exact all_oneCell_toArray fun v hv => ints_one _ _ v hv
theorem dg_size : (Try.prog.info? 29).map (·.size) = some 8 := by kernel_rfl
theorem rdg_size : (Try.prog.info? 22).map (·.size) = some 8 := by kernel_rfl
/-- A digest lies whole in block g. -/
def DgAt (w : World) (g : Nat) (t : TypeId) (ds : List Int) : Prop := Bk w g t (ds.map (Value.int .u8))
theorem DgAt.heap {w : World} {g : Nat} {t : TypeId} {ds : List Int} (h : DgAt w g t ds) : w.heap[g]? = some (.cells (dgA ds) t (0, 0)) := h
theorem dg_new (w : World) (t : TypeId) (ds : List Int) : DgAt (w.alloc (.cells (dgA ds) t)) w.heap.size t ds := Bk.new' w t _ (dgA_list ds)

theorem Bk.row {w : World} {g : Nat} {t : TypeId} {xs : List Value} (h : Bk w g t xs) (cs : Array Value) : Bk (w.setRow g cs) g t cs.toList := by
  unfold Bk at h ⊢; simpa using setRow_heap w g _ cs t (0, 0) h
theorem Bk.rowFar {w : World} {g g' : Nat} {t : TypeId} {xs : List Value} (h : Bk w g t xs) (hne : g ≠ g') (cs : Array Value) : Bk (w.setRow g' cs) g t xs := by
  unfold Bk at h ⊢; rw [setRow_other _ _ _ _ hne]; exact h
theorem DgAt.row {w : World} {g : Nat} {t : TypeId} {xs : List Value} (h : Bk w g t xs) (ds : List Int) : DgAt (w.setRow g (dgA ds)) g t ds := by
  have := Bk.row h (dgA ds); rw [dgA_list] at this; exact this
theorem only_row {a w : World} {g : Nat} (h : a.grownBy w (some g)) (cs : Array Value) : a.grownBy (w.setRow g cs) (some g) :=
  ⟨h.os, h.tape, h.output, by simpa using h.size, fun k hk hne => (setRow_other w g k cs (by rintro rfl; exact hne rfl)).trans (h.block k hk hne)⟩

/-- An array by value, at a place that is there. -/
theorem run_index_row {P : Program} (t e : TypeId) (n : Nat) (cs : Array Value) (k : IntKind) (i : Nat) (v : Value) (h : P.underlying t = some (.array n e)) (hs : (P.info? e).map (·.size) = some 1) (hi : i < n) (hv : cs[i]? = some v)
    (hag : ∀ w, (isAgg e).run P w = .ok false w) (w : World) :
    (Instr.index t (.agg cs) (.int k (i : Int))).run P w = .ok v w := by
  have h1 : ∀ w, (sizeOf e).run P w = .ok 1 w := fun w => by
    cases hq : P.info? e with
    | none => simp [hq] at hs
    | some j =>
      simp [hq] at hs
      simp [sizeOf, typeInfo, hq, hs]
  have h0 : (0 : Int) ≤ i := by omega
  have h2 : (i : Int) < n := by omega
  simp [Instr.index, run_underlying h, asIntOf, h0, part, h1, hag, hv]
  intro hc; omega

set_option maxRecDepth 20000 in
theorem num_any (ds : List Int) (h : DgOk ds) (w : World) :
    Calls Try.prog 141 #[.agg (dgA ds)] w fun e w' => e = .returned (.int .u64 (numG ds)) ∧ Below w.heap.size w w' := by
  have hb1 := below_new w (.cells (dgA ds) 29)
  have HC := Lib.hid (dg_new w 29 ds).heap
  have HI : Hid ((Try.prog.info? 29).map (·.size) = some (dgA ds).size) := by
    show _ = _
    rw [dgA_size, h.len]; exact dg_size
  have hidx : ∀ (k : Nat) (b : Int), ds[k]? = some b → ∀ w, (Instr.index 29 (.agg (dgA ds)) (.int .i64 (k : Int))).run Try.prog w = .ok (.int .u8 b) w := fun k b hb w =>
    run_index_row 29 5 8 _ .i64 k _ Try.underlying29 (by kernel_rfl) (by rw [← h.len]; exact (List.getElem?_eq_some_iff.1 hb).1) (by rw [dgA_get, hb]; rfl) (fun w => by simp [isAgg, run_underlying Try.underlying5]) w
  have HX := Lib.hid hidx; have HD := Lib.hid h
  clear hidx h
  generalize dgA ds = C at HC HI HX hb1 ⊢
  go_enter Try.func141, Try.ntmps141
  go_wp2_with (refine wpList_load_row rfl 29 _ rfl w.heap.size rfl 29 C (0, 0) _ HC.out Try.underlying29 rfl HI.out ?_)
  go_loop [3, 7] (fun n i => ∃ k : Nat, k ≤ 8 ∧ i = .int .i64 k ∧ n = .int .u64 (numG (ds.take k))) (fun _ i => 8 - (intOf i).toNat)
  case atStart => exact ⟨0, by omega, rfl, rfl⟩
  case round =>
    obtain ⟨k, hk, rfl, rfl⟩ := hrel
    by_cases hlt : k < 8
    · have hk1 : (k : Int) < 8 := by omega
      obtain ⟨b, hb⟩ : ∃ b, ds[k]? = some b := ⟨ds[k]'(by rw [HD.out.len]; exact hlt), List.getElem?_eq_getElem _⟩
      have hx := HX.out k b hb
      have hs := num_step HD.out hb
      have b01 := HD.out.byt b (List.mem_of_getElem? hb)
      obtain ⟨b0, b1⟩ := b01
      obtain ⟨nk, hnk⟩ : ∃ nk, numG (ds.take k) = nk := ⟨_, rfl⟩
      rw [hnk] at hs ⊢
      have HS := Lib.hid hs
      clear hb hs hnk
      go_wp2_with fail
      refine ⟨⟨k + 1, by omega, by go_num, by rw [HS.out]⟩, by simp [intOf]; omega⟩
    · have e8 : ds.take k = ds := List.take_of_length_le (by rw [HD.out.len]; omega)
      have E8 := Lib.hid e8; clear e8
      have hk1 : (8 : Int) ≤ k := by omega
      go_wp2_with fail
      go_ret
      go_light
      exact ⟨(show Ending.returned (.int .u64 (numG (ds.take k))) = .returned (.int .u64 (numG ds)) by rw [E8.out]), hb1⟩

theorem rnum_any (ds : List Int) (h : DgOk ds) (w : World) :
    Calls Try.prog 139 #[.agg (dgA ds)] w fun e w' => e = .returned (.int .u64 (numG ds)) ∧ Below w.heap.size w w' := by
  obtain ⟨w1, hw1⟩ : ∃ w1, w.alloc (.cells (dgA ds) 22) = w1 := ⟨_, rfl⟩
  have hb1 : Below w.heap.size w w1 := hw1 ▸ below_new _ _
  have hc : DgAt w1 w.heap.size 22 ds := hw1 ▸ dg_new w _ ds
  have hlt0 : w.heap.size < w1.heap.size := Bk.lt hc
  have HC := Lib.hid hc; have HW := Lib.hid hw1; have HD := Lib.hid h
  clear hw1 hc h
  generalize dgA ds = C at HW ⊢
  go_enter Try.func139, Try.ntmps139
  go_wp2_with fail
  rw [HW.out]
  go_loop [3, 4] (fun n i => ∃ k : Nat, k ≤ 8 ∧ i = .int .i64 ((k : Int) - 1) ∧ n = .int .u64 (numG (ds.drop k))) (fun _ i => (intOf i + 1).toNat)
  case atStart => exact ⟨8, by omega, rfl, by rw [List.drop_eq_nil_of_le (by rw [HD.out.len]; omega)]; rfl⟩
  case round =>
    obtain ⟨k, hk, rfl, rfl⟩ := hrel
    by_cases hlt : 0 < k
    · obtain ⟨j, rfl⟩ : ∃ j, k = j + 1 := ⟨k - 1, by omega⟩
      have hj : j < 8 := by omega
      obtain ⟨b, hb⟩ : ∃ b, ds[j]? = some b := ⟨ds[j]'(by rw [HD.out.len]; exact hj), List.getElem?_eq_getElem _⟩
      have hs := num_step' HD.out hb
      have hcell : w1.cell? ⟨w.heap.size, j, none⟩ = some (.int .u8 b) := by rw [Bk.cell HC.out]; simp [hb]
      obtain ⟨b0, b1⟩ := HD.out.byt b (List.mem_of_getElem? hb)
      obtain ⟨nk, hnk⟩ : ∃ nk, numG (ds.drop (j + 1)) = nk := ⟨_, rfl⟩
      rw [hnk] at hs ⊢
      have HS := Lib.hid hs
      clear hb hs hnk
      have ej : ((j + 1 : Nat) : Int) - 1 = j := by omega
      rw [ej]
      have h0 : (0 : Int) ≤ j := by omega
      have h8 : (j : Int) < 8 := by omega
      clear ej
      go_wp2_with fail
      exact ⟨⟨j, by omega, rfl, by rw [HS.out]⟩, by simp [intOf] <;> omega⟩
    · obtain rfl : k = 0 := by omega
      go_wp2_with fail
      go_ret
      go_light
      exact ⟨(show Ending.returned (.int .u64 (numG (ds.drop 0))) = .returned (.int .u64 (numG ds)) by rw [List.drop_zero]), hb1⟩

theorem from_list (n : Int) (k : Nat) (hk : k < 8) : ((fromG n).take k ++ List.replicate (8 - k) 0).set k (n / 256 ^ k % 256) = (fromG n).take (k + 1) ++ List.replicate (8 - (k + 1)) 0 := by
  have e3 : 8 - k = (8 - (k + 1)) + 1 := by omega
  have hl : ((fromG n).take k).length = k := by rw [List.length_take, fromG_len]; omega
  rw [List.set_append, if_neg (by rw [hl]; omega), hl, Nat.sub_self, e3, List.replicate_succ, List.set_cons_zero, take_snoc (fromG_get n hk), List.append_assoc]
  rfl

set_option maxRecDepth 20000 in
theorem from_any (n : Int) (w : World) :
    Calls Try.prog 135 #[.int .u64 n] w fun e w' => e = .returned (.agg (dgA (fromG n))) ∧ Below w.heap.size w w' := by
  obtain ⟨w1, hw1⟩ : ∃ w1, (w.alloc (.cells #[.int .u8 0, .int .u8 0, .int .u8 0, .int .u8 0, .int .u8 0, .int .u8 0, .int .u8 0, .int .u8 0] 29)).alloc (.cells #[.int .u8 0, .int .u8 0, .int .u8 0, .int .u8 0, .int .u8 0, .int .u8 0, .int .u8 0, .int .u8 0] 29) = w1 := ⟨_, rfl⟩
  have hb1 : Below w.heap.size w w1 := hw1 ▸ (below_new w _).alloc (by simp) _
  have hz : DgAt w1 w.heap.size 29 (List.replicate 8 0) := hw1 ▸ (Bk.new w _ #[.int .u8 0, .int .u8 0, .int .u8 0, .int .u8 0, .int .u8 0, .int .u8 0, .int .u8 0, .int .u8 0]).alloc _
  have hc : DgAt w1 (w.heap.size + 1) 29 ((fromG n).take 0 ++ List.replicate (8 - 0) 0) := hw1 ▸ Bk.at_ _ _ #[.int .u8 0, .int .u8 0, .int .u8 0, .int .u8 0, .int .u8 0, .int .u8 0, .int .u8 0, .int .u8 0] (by simp) rfl
  have HC := Lib.hid hc; have HW := Lib.hid hw1; have HB := Lib.hid hb1; have HZ := Lib.hid hz
  clear hw1 hc hb1 hz
  go_enter Try.func135, Try.ntmps135
  go_wp2_with fail
  rw [HW.out]
  go_loopw [5] (fun i wr => ∃ k : Nat, k ≤ 8 ∧ i = .int .i64 k ∧ DgAt wr (w.heap.size + 1) 29 ((fromG n).take k ++ List.replicate (8 - k) 0) ∧ DgAt wr w.heap.size 29 (List.replicate 8 0) ∧ Below w.heap.size w wr) (fun i _ => 8 - (intOf i).toNat)
  case atStart => exact ⟨0, by omega, rfl, HC.out, HZ.out, HB.out⟩
  case round =>
    obtain ⟨k, hk, rfl, hd, hz, hbl⟩ := hrel
    have hlt0 : w.heap.size + 1 < wr.heap.size := Bk.lt hd
    by_cases hlt : k < 8
    · have hk1 : (k : Int) < 8 := by omega
      have h0 : (0 : Int) ≤ k := by omega
      have hcell : wr.cell? ⟨w.heap.size + 1, k, none⟩ = some (.int .u8 0) := by
        rw [Bk.cell hd, List.getElem?_map, List.getElem?_append_right (by rw [List.length_take]; omega)]
        simp [List.getElem?_replicate, fromG_len]; omega
      have hfr : wr.frozen? ⟨w.heap.size + 1, k, none⟩ = false := Bk.frozen hd k
      have HD := Lib.hid hd; have HB := Lib.hid hbl; have HZ := Lib.hid hz
      clear hd hbl hz
      go_wp2_with fail
      have e1 := Bk.set_ HD.out k (.int .u8 (n / 256 ^ k % 256))
      rw [← List.map_set, from_list n k hlt] at e1
      rw [← pow256]
      exact ⟨⟨k + 1, by omega, by go_num, e1, Bk.far HZ.out (by simp) _, HB.out.setCell (Nat.le_succ _) _⟩, by simp [intOf]; omega⟩
    · have e8 : (fromG n).take k ++ List.replicate (8 - k) 0 = fromG n := by rw [List.take_of_length_le (by rw [fromG_len]; omega), show 8 - k = 0 by omega]; simp
      rw [e8] at hd
      have hk1 : (8 : Int) ≤ k := by omega
      have HI : Hid ((Try.prog.info? 29).map (·.size) = some (dgA (fromG n)).size) := by
        show _ = _
        rw [dgA_size, fromG_len]; exact dg_size
      have HC2 := Lib.hid (DgAt.heap hd); have HZ2 := Lib.hid (DgAt.heap hz); have HB := Lib.hid hbl; have HO := Lib.hid (dgA_one (fromG n)); have HA := Lib.hid hz
      have HZS : Hid ((dgA (List.replicate 8 0)).size = (dgA (fromG n)).size) := by show _ = _; rw [dgA_size, dgA_size, fromG_len]; rfl
      clear e8 hd hbl hz
      obtain ⟨C, hC⟩ : ∃ C, dgA (fromG n) = C := ⟨_, rfl⟩
      have HCC := Lib.hid hC
      rw [hC] at HI HC2 HO HZS
      clear hC
      go_wp2_with (first
        | (refine wpList_load_row rfl 29 _ rfl (w.heap.size + 1) rfl 29 C (0, 0) _ HC2.out Try.underlying29 rfl HI.out ?_)
        | (refine wpList_store_row rfl 29 _ _ rfl w.heap.size C rfl rfl 29 (dgA (List.replicate 8 0)) HZ2.out HI.out HZS.out HO.out ?_))
      refine bodyPost_ret (results_cell_row (p := 2) (ty := 29) rfl _ _ w.heap.size 29 C (0, 0) _ rfl (setRow_heap _ _ _ _ _ _ HZ2.out) Try.underlying29 rfl HI.out) rfl ?_
      rw [← HCC.out]
      exact ⟨rfl, below_setRow HB.out (Nat.le_refl _) _⟩
set_option maxRecDepth 20000 in
theorem rfrom_any (n : Int) (hn0 : 0 ≤ n) (hn1 : Hid (n < 18446744073709551616)) (w : World) :
    Calls Try.prog 137 #[.int .u64 n] w fun e w' => e = .returned (.agg (dgA (fromG n))) ∧ Below w.heap.size w w' := by
  obtain ⟨w1, hw1⟩ : ∃ w1, (w.alloc (.cells #[.int .u8 0, .int .u8 0, .int .u8 0, .int .u8 0, .int .u8 0, .int .u8 0, .int .u8 0, .int .u8 0] 22)).alloc (.cells #[.int .u8 0, .int .u8 0, .int .u8 0, .int .u8 0, .int .u8 0, .int .u8 0, .int .u8 0, .int .u8 0] 22) = w1 := ⟨_, rfl⟩
  have hb1 : Below w.heap.size w w1 := hw1 ▸ (below_new w _).alloc (by simp) _
  have hz : DgAt w1 w.heap.size 22 (List.replicate 8 0) := hw1 ▸ (Bk.new w _ #[.int .u8 0, .int .u8 0, .int .u8 0, .int .u8 0, .int .u8 0, .int .u8 0, .int .u8 0, .int .u8 0]).alloc _
  have hc : DgAt w1 (w.heap.size + 1) 22 ((fromG n).take 0 ++ List.replicate (8 - 0) 0) := hw1 ▸ Bk.at_ _ _ #[.int .u8 0, .int .u8 0, .int .u8 0, .int .u8 0, .int .u8 0, .int .u8 0, .int .u8 0, .int .u8 0] (by simp) rfl
  have HC := Lib.hid hc; have HW := Lib.hid hw1; have HB := Lib.hid hb1; have HZ := Lib.hid hz
  clear hw1 hc hb1 hz
  go_enter Try.func137, Try.ntmps137
  go_wp2_with fail
  rw [HW.out]
  go_loopw [0, 4] (fun m i wr => ∃ (k : Nat) (mk : Int), k ≤ 8 ∧ i = .int .i64 k ∧ m = .int .u64 mk ∧ 0 ≤ mk ∧ Hid (mk < 18446744073709551616) ∧ Hid (mk = n / 256 ^ k) ∧ DgAt wr (w.heap.size + 1) 22 ((fromG n).take k ++ List.replicate (8 - k) 0) ∧ DgAt wr w.heap.size 22 (List.replicate 8 0) ∧ Below w.heap.size w wr) (fun _ i _ => 8 - (intOf i).toNat)
  case atStart => exact ⟨0, n, by omega, rfl, rfl, hn0, hn1, by show _ = _; simp, HC.out, HZ.out, HB.out⟩
  case round =>
    obtain ⟨k, mk, hk, rfl, rfl, hm0, hm1, hmk, hd, hz, hbl⟩ := hrel
    have hlt0 : w.heap.size + 1 < wr.heap.size := Bk.lt hd
    by_cases hlt : k < 8
    · have hk1 : (k : Int) < 8 := by omega
      have h0 : (0 : Int) ≤ k := by omega
      have hcell : wr.cell? ⟨w.heap.size + 1, k, none⟩ = some (.int .u8 0) := by
        rw [Bk.cell hd, List.getElem?_map, List.getElem?_append_right (by rw [List.length_take]; omega)]
        simp [List.getElem?_replicate, fromG_len]; omega
      have hfr : wr.frozen? ⟨w.heap.size + 1, k, none⟩ = false := Bk.frozen hd k
      have HD := Lib.hid hd; have HB := Lib.hid hbl; have HZ := Lib.hid hz
      clear hd hbl hz
      have htd : IntKind.u64.wrap (mk.tdiv 256) = mk / 256 := by
        have := hm1.out
        rw [Int.tdiv_eq_ediv_of_nonneg hm0, IntKind.wrap_u64]; omega
      go_wp2_with fail
      have e1 := Bk.set_ HD.out k (.int .u8 (n / 256 ^ k % 256))
      rw [← List.map_set, from_list n k hlt, ← hmk.out] at e1
      have e2 : mk / 256 = n / 256 ^ (k + 1) := by rw [hmk.out]; exact from_step' n k
      exact ⟨⟨k + 1, mk / 256, by omega, by go_num, rfl, by omega, (by have := hm1.out; show _ < _; omega), e2, e1, Bk.far HZ.out (by simp) _, HB.out.setCell (Nat.le_succ _) _⟩, by simp [intOf]; omega⟩
    · have e8 : (fromG n).take k ++ List.replicate (8 - k) 0 = fromG n := by rw [List.take_of_length_le (by rw [fromG_len]; omega), show 8 - k = 0 by omega]; simp
      rw [e8] at hd
      have hk1 : (8 : Int) ≤ k := by omega
      have HI : Hid ((Try.prog.info? 22).map (·.size) = some (dgA (fromG n)).size) := by
        show _ = _
        rw [dgA_size, fromG_len]; exact rdg_size
      have HC2 := Lib.hid (DgAt.heap hd); have HZ2 := Lib.hid (DgAt.heap hz); have HB := Lib.hid hbl; have HO := Lib.hid (dgA_one (fromG n)); have HA := Lib.hid hz
      have HZS : Hid ((dgA (List.replicate 8 0)).size = (dgA (fromG n)).size) := by show _ = _; rw [dgA_size, dgA_size, fromG_len]; rfl
      clear e8 hd hbl hz
      obtain ⟨C, hC⟩ : ∃ C, dgA (fromG n) = C := ⟨_, rfl⟩
      have HCC := Lib.hid hC
      rw [hC] at HI HC2 HO HZS
      clear hC
      go_wp2_with (first
        | (refine wpList_load_row rfl 22 _ rfl (w.heap.size + 1) rfl 22 C (0, 0) _ HC2.out Try.underlying22 rfl HI.out ?_)
        | (refine wpList_store_row rfl 22 _ _ rfl w.heap.size C rfl rfl 22 (dgA (List.replicate 8 0)) HZ2.out HI.out HZS.out HO.out ?_))
      refine bodyPost_ret (results_cell_row (p := 2) (ty := 22) rfl _ _ w.heap.size 22 C (0, 0) _ rfl (setRow_heap _ _ _ _ _ _ HZ2.out) Try.underlying22 rfl HI.out) rfl ?_
      rw [← HCC.out]
      exact ⟨rfl, below_setRow HB.out (Nat.le_refl _) _⟩
end Go.Proofs.Ythibihjblodfmaa
