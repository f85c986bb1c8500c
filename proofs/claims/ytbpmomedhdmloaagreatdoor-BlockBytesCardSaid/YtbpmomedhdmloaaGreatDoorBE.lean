/- BlockFees: the walk. -/
import Derived.Test.YtbpmomedhdmloaaGreatDoorBD
namespace Go.Proofs.YtbpmomedhdmloaaGreatDoor
set_option linter.unusedSimpArgs false
set_option linter.unusedVariables false
open Go.RowKit Go.Maps

theorem feeV_bad {h : Int} {L : List TxT} (hE : blkE h L ≠ 0) : feeV h L = 0 := by unfold feeV; rw [if_neg hE]
theorem feeV_ok {h : Int} {L : List TxT} (hE : blkE h L = 0) : feeV h L = feesS L := by unfold feeV; rw [if_pos hE]
theorem ms_step {N q : Nat} (h : q < N) (hw : wrap64 ((q : Int) + 1) = (q : Int) + 1) : N - (intOf (Value.int .i64 (wrap64 ((q : Int) + 1)))).toNat < N - (intOf (Value.int .i64 (q : Int))).toNat := by
  rw [hw]
  simp only [intOf]
  omega
/-- A block's cells, its transactions: what a method's call asks for. -/
structure BkAt (w : World) (g : Nat) (p : List Int) (h : Int) (m : List Int) (A : Option Addr) (N C : Nat) (L : List TxT) : Prop where
  bk : Bk w g 31 (bkC p h m (.slice A N C))
  txs : ∃ xs, Txs w A N xs ∧ xs.map (·.2) = L
theorem BkAt.later {w w' : World} {g : Nat} {p : List Int} {h : Int} {m : List Int} {A : Option Addr} {N C : Nat} {L : List TxT} (k : BkAt w g p h m A N C L) (hb : Below w.heap.size w w') : BkAt w' g p h m A N C L := by
  obtain ⟨b, xs, hx, e⟩ := k
  exact ⟨b.later hb, xs, hx.later hb, e⟩
theorem BkAt.len {w : World} {g : Nat} {p : List Int} {h : Int} {m : List Int} {A : Option Addr} {N C : Nat} {L : List TxT} (k : BkAt w g p h m A N C L) : L.length = N := by
  obtain ⟨b, xs, hx, e⟩ := k
  rw [← e, List.length_map, hx.length]
theorem BkAt.fees {w : World} {g : Nat} {p : List Int} {h : Int} {m : List Int} {A : Option Addr} {N C : Nat} {L : List TxT} (k : BkAt w g p h m A N C L) (hp : DgOk p) (hm : DgOk m) :
    Calls Tryz.prog 13 #[.agg (bkC p h m (.slice A N C)).toArray] w fun e w' => e = .returned (.tuple #[.int .i64 (feeV h L), .int .i64 (blkE h L)]) ∧ Below w.heap.size w w' := by
  obtain ⟨b, xs, hx, e⟩ := k
  rw [← e]; exact bFees_any w p h m hp hm A N C xs hx
theorem BkAt.right {w : World} {g : Nat} {p : List Int} {h : Int} {m : List Int} {A : Option Addr} {N C : Nat} {L : List TxT} (k : BkAt w g p h m A N C L) (hp : DgOk p) (hm : DgOk m) :
    Calls Tryz.prog 15 #[.agg (bkC p h m (.slice A N C)).toArray] w fun e w' => e = .returned (.int .i64 (blkE h L)) ∧ Below w.heap.size w w' := by
  obtain ⟨b, xs, hx, e⟩ := k
  rw [← e]; exact right_b w p h m hp hm A N C xs hx
theorem Txs.front {w : World} {A : Option Addr} {N k : Nat} {xs : List (List Value × TxT)} (h : Txs w A N xs) (hk : k ≤ N) : Txs w A k (xs.take k) := by
  have hl := h.length
  refine ⟨⟨?_, by have := h.sl.le; omega, fun hp => ?_⟩, fun x hx => h.th x (List.mem_of_mem_take hx)⟩
  · rw [flats_len (m := 13) _ (fun l hl => by
      obtain ⟨x, hx, rfl⟩ := List.mem_map.1 hl
      exact (h.th x (List.mem_of_mem_take hx)).len), List.length_map, List.length_take]
    omega
  · obtain ⟨ad, e, hb, hc⟩ := h.sl.mem (by omega)
    refine ⟨ad, e, hb, fun j u hu => hc j u ?_⟩
    have e2 : (xs.map (·.1)).flatten = ((xs.take k).map (·.1)).flatten ++ ((xs.drop k).map (·.1)).flatten := by
      rw [← List.flatten_append, ← List.map_append, List.take_append_drop]
    rw [e2, List.getElem?_append_left (List.getElem?_eq_some_iff.1 hu).1]
    exact hu
theorem Txs.back {w : World} {A : Option Addr} {N k c : Nat} {xs : List (List Value × TxT)} (h : Txs w A N xs) (hc : N ≤ c) (hk : k ≤ N) : Txs w (if c = k then A else Option.map (fun x => x.add (k * 13)) A) (N - k) (xs.drop k) := by
  have hl := h.length
  refine ⟨⟨?_, by have := h.sl.le; omega, fun hp => ?_⟩, fun x hx => h.th x (List.mem_of_mem_drop hx)⟩
  · rw [flats_len (m := 13) _ (fun l hl => by
      obtain ⟨x, hx, rfl⟩ := List.mem_map.1 hl
      exact (h.th x (List.mem_of_mem_drop hx)).len), List.length_map, List.length_drop]
    omega
  · obtain ⟨ad, rfl, hb, hcc⟩ := h.sl.mem (by omega)
    rw [if_neg (by omega)]
    refine ⟨ad.add (k * 13), rfl, by rw [add_block]; exact hb, fun j u hu => ?_⟩
    rw [add_add']
    refine hcc _ _ ?_
    have e2 : (xs.map (·.1)).flatten = ((xs.take k).map (·.1)).flatten ++ ((xs.drop k).map (·.1)).flatten := by
      rw [← List.flatten_append, ← List.map_append, List.take_append_drop]
    have e3 : ((xs.take k).map (·.1)).flatten.length = k * 13 := by
      rw [flats_len (m := 13) _ (fun l hl => by
        obtain ⟨x, hx, rfl⟩ := List.mem_map.1 hl
        exact (h.th x (List.mem_of_mem_take hx)).len), List.length_map, List.length_take]
      rw [show min k xs.length = k by omega]
    rw [e2, List.getElem?_append_right (by omega), e3, show k * 13 + j - k * 13 = j by omega]
    exact hu
theorem run_tback (A : Option Addr) (n c k : Nat) (hk : k ≤ n) (hc : n ≤ c) (W : World) :
    (Instr.slice 29 (.slice A n c) (some (.int .i64 (k : Int))) none none).run Tryz.prog W = .ok (.slice (if c = k then A else Option.map (fun x => x.add (k * 13)) A) (n - k) (c - k)) W := by
  obtain ⟨i0, hi, hi0, hi1, hi2⟩ := info_parts Tryz.infoTx
  have he : Tryz.prog.elem 29 = 76 := by simp [Program.elem, Tryz.underlying29]
  rw [run_slice_l (P := Tryz.prog) (w := W) 29 A n c (by rw [he]; exact Tryz.underlying29) .i64 k (by omega) (by omega)]
  simp [he, sizeOf, typeInfo, hi, hi1, sliced]
theorem run_tfront (A : Option Addr) (n c k : Nat) (hk : k ≤ n) (hc : n ≤ c) (W : World) :
    (Instr.slice 29 (.slice A n c) none (some (.int .i64 (k : Int))) none).run Tryz.prog W = .ok (.slice A k c) W := by
  obtain ⟨i0, hi, hi0, hi1, hi2⟩ := info_parts Tryz.infoTx
  have he : Tryz.prog.elem 29 = 76 := by simp [Program.elem, Tryz.underlying29]
  rw [run_slice_h (P := Tryz.prog) (w := W) 29 A n c (by rw [he]; exact Tryz.underlying29) .i64 k (by omega) (by omega)]
  simp [he, sizeOf, typeInfo, hi, hi1, sliced]
  intro _
  cases A with
  | none => rfl
  | some a => simp [Addr.add]
theorem build_rb1 (A : Option Addr) (n c : Nat) (w : World) : (Instr.build 25 #[(3, .slice A n c)]).run Tryz.prog w = .ok (.agg (bkC zeroD 0 zeroD (.slice A n c)).toArray) w := by kernel_rfl
end Go.Proofs.YtbpmomedhdmloaaGreatDoor
