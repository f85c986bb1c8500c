/- BlockHas: the walk. -/
import Derived.Test.YtbpmomedhdmloaaGreatDoorD8
namespace Go.Proofs.YtbpmomedhdmloaaGreatDoor
set_option linter.unusedSimpArgs false
set_option linter.unusedVariables false
open Go.RowKit Go.Maps

theorem pathT_len (h : Int) (L : List TxT) (i : Int) : (pathT h L i).length ≤ 12 := by
  unfold pathT
  split
  · rename_i hc
    have h4 := (blkE_zero hc.1).2.1
    unfold pathL
    split
    · rw [pathI_len]; exact height_le (by rw [namesT_len]; omega)
    · exact Nat.zero_le _
  · exact Nat.zero_le _
theorem pathT_ok (h : Int) (L : List TxT) (i : Int) : DsOk (pathT h L i) := by
  unfold pathT
  split
  · exact pathL_ok _ _
  · exact fun _ h => absurd h (by simp)
theorem cellsD_snocT {ls : List (List Int)} {k : Nat} {d : List Int} (hk : ls[k]? = some d) : cellsD (ls.take (k + 1)) = cellsD (ls.take k) ++ dl d := by
  rw [take_snoc hk, cellsD, List.flatMap_append]
  simp [cellsD, dl]
/-- The program's answers of one block. -/
structure HasC (B1 : List Value) (N : Nat) (A2 : Option Addr) (xs : List (List Value × TxT)) (L : List TxT) (h : Int) : Prop where
  has : ∀ (d : List Int), DgOk d → ∀ w, Txs w A2 N xs → Calls Tryz.prog 19 #[.agg B1.toArray, .agg (dl d).toArray] w fun e w' => HasP L d e ∧ Below w.heap.size w w'
  path : ∀ (i : Int) w, Txs w A2 N xs → Calls Tryz.prog 21 #[.agg B1.toArray, .int .i64 i] w fun e w' => (∃ v, e = .returned (.tuple #[v, .int .i64 (pathTE h L i)]) ∧ w'.ownsRow w.heap.size 28 8 v (pathT h L i).length (cellsD (pathT h L i))) ∧ Below w.heap.size w w'
structure RHasC (l : List Value) (N : Nat) (A : Option Addr) (xs : List (List Value × TxT)) (L : List TxT) (h : Int) : Prop where
  has : ∀ (d : List Int), DgOk d → ∀ w, Txs w A N xs → Calls Tryz.prog 20 #[.agg l.toArray, .agg (dl d).toArray] w fun e w' => RHasP L d e ∧ Below w.heap.size w w'
  path : ∀ (i : Int) w, Txs w A N xs → Calls Tryz.prog 22 #[.agg l.toArray, .int .i64 i] w fun e w' => (∃ v, e = .returned (.tuple #[v, .int .i64 (pathTE h L i)]) ∧ w'.ownsRow w.heap.size 22 8 v (pathT h L i).length (cellsD (pathT h L i))) ∧ Below w.heap.size w w'
theorem has_calls {p : List Int} {h : Int} {m : List Int} (hp : DgOk p) (hm : DgOk m) {A : Option Addr} {N C : Nat} {xs : List (List Value × TxT)} (hN : N ≤ 1000) (hl : ∀ x ∈ xs, x.2.b.length ≤ 1073741000 ∧ x.2.s.length ≤ 1073741000) :
    HasC (bkC p h m (.slice A N C)) N A xs (xs.map (·.2)) h :=
  ⟨fun d hd w hx => has_any26 w p h m hp hm A N C xs hx hN hl d hd, fun i w hx => bpath_any w p h m hp hm A N C xs hx hN hl i⟩
theorem rhas_calls {p : List Int} {h : Int} {m : List Int} (hp : DgOk p) (hm : DgOk m) {A : Option Addr} {N C : Nat} {xs : List (List Value × TxT)} (hN : N ≤ 1000) (hl : ∀ x ∈ xs, x.2.b.length ≤ 1073741000 ∧ x.2.s.length ≤ 1073741000) :
    RHasC (bkC p h m (.slice A N C)) N A xs (xs.map (·.2)) h :=
  ⟨fun d hd w hx => rhas_any26 w p h m hp hm A N C xs hx hN hl d hd, fun i w hx => rbpath_any w p h m hp hm A N C xs hx hN hl i⟩
/-- The same place, told in both ways. -/
theorem HasR.facts {L : List TxT} {d : List Int} {k : Int} {b : Bool} (h : HasR L d k b) : ∃ n : Int, (if b = true then k else -1) = n ∧ decide (0 ≤ n) = b ∧ max n 0 = k := by
  rcases h with ⟨rfl, j, t, rfl, _⟩ | ⟨rfl, rfl, _⟩
  · exact ⟨j, by simp, by simp, by omega⟩
  · exact ⟨-1, by simp, by simp, by decide⟩
set_option maxRecDepth 20000 in
set_option maxHeartbeats 16000000 in
theorem bhas_law (w : World) (p : List Int) (h : Int) (m : List Int) (hp : DgOk p) (hm : DgOk m) (A : Option Addr) (N C : Nat) (xs : List (List Value × TxT)) (hx : Txs w A N xs)
    (hl : ∀ x ∈ xs, x.2.b.length ≤ 140737488355328 ∧ x.2.s.length ≤ 140737488355328)
    (d : List Int) (hd : DgOk d) (r : List Int) (hr : DgOk r) (i : Int) (A5 : Option Addr) (n5 c5 : Nat) (ds : List (List Int)) (hds : DsOk ds) (hsd : Sl w w.heap.size 8 A5 n5 (cellsD ds)) :
    Calls Tryz.prog 4 #[.agg (bkC p h m (.slice A N C)).toArray, .agg (dl d).toArray, .agg (dl r).toArray, .int .i64 i, .slice A5 n5 c5] w fun e w' => e = .returned (.bool true) ∧ Below w.heap.size w w' := by
  have hF0 : Hid (BkFit (bkC p h m (.slice A N C))) := bk_fit hp hm
  have HFB := Lib.hid (fun (A' : Option Addr) (N' C' : Nat) => bk_fit (p := p) (h := h) (m := m) (A := A') (N := N') (C := C') hp hm)
  have HFW := Lib.hid (fun w' (hx' : Txs w' A N xs) => few_any w' p h m hp hm A N C xs hx' hl)
  have HOF := Lib.hid (fun w' (hx' : Txs w' A N xs) (hN : N ≤ 1000) => of_any w' p h m hp hm A N C xs hx' hN)
  have HRC := Lib.hid (fun hN hl => rhas_calls (h := h) (A := A) (N := N) (C := C) (xs := xs) hp hm hN hl)
  have HPC := Lib.hid (fun (A' : Option Addr) (C' : Nat) hN hl => has_calls (h := h) (A := A') (N := N) (C := C') (xs := xs) hp hm hN hl)
  obtain ⟨L, hL⟩ : ∃ L, xs.map (·.2) = L := ⟨_, rfl⟩
  have HLN : Hid (L.length = N) := by show _ = _; rw [← hL, List.length_map, hx.length]
  rw [hL] at HFW HRC HPC
  have HL := Lib.hid hL
  have HPO2 : Hid (DsOk (pathT h L i)) := pathT_ok _ _ _
  have HPL : Hid ((pathT h L i).length ≤ 12) := pathT_len _ _ _
  obtain ⟨l, hl0⟩ : ∃ x, bkC p h m (.slice A N C) = x := ⟨_, rfl⟩
  obtain ⟨X, hX⟩ : ∃ X, l.toArray = X := ⟨_, rfl⟩
  obtain ⟨O, hO⟩ : ∃ X, (dl d).toArray = X := ⟨_, rfl⟩
  obtain ⟨Q, hQ⟩ : ∃ X, (dl r).toArray = X := ⟨_, rfl⟩
  obtain ⟨z, hz⟩ : ∃ z, w.heap.size = z := ⟨_, rfl⟩
  obtain ⟨w1, hw1⟩ : ∃ w1, ((w.alloc (.cells X 25)).alloc (.cells O 22)).alloc (.cells Q 22) = w1 := ⟨_, rfl⟩
  have hb1 : Below w.heap.size w w1 := hw1 ▸ ((below_new w _).alloc (by simp) _).alloc (by simp; omega) _
  have kx : Bk w1 z 25 l := hw1 ▸ ((Bk.at_ w _ X hz (by rw [← hX])).alloc _).alloc _
  have kd : Bk w1 (z + 1) 22 (dl d) := hw1 ▸ (Bk.at_ _ _ O (by simp [hz]) (by rw [← hO])).alloc _
  have kr : Bk w1 (z + 2) 22 (dl r) := hw1 ▸ Bk.at_ _ _ Q (by simp [hz]) (by rw [← hQ])
  have HW := Lib.hid hw1; have HBB1 := Lib.hid hb1; have HZ := Lib.hid hz; have HK1 := Lib.hid kx; have HD1 := Lib.hid kd; have HR1 := Lib.hid kr; have HPO := Lib.hid hp; have HMO := Lib.hid hm; have HXE := Lib.hid hX
  have HX1 := Lib.hid (hx.later hb1); have HS1 := Lib.hid (hsd.later hb1); have HDO := Lib.hid hd; have HRO := Lib.hid hr; have HDS := Lib.hid hds; have HDL := Lib.hid (hsd.dgs hds)
  have HFL : Hid (BkFit l) := hl0 ▸ hF0.out
  have hn5 := hsd.le
  rw [hl0] at HFW HOF HRC ⊢
  rw [hX] at HFW HOF ⊢
  rw [hO, hQ]
  clear hL hl0 hX hO hQ hz hw1 hb1 kx kd kr hF0 hp hm hx hl hd hr hds hsd
  go_enter Tryz.func4, Tryz.ntmps4
  go_upto_region 1 with fail
  rw [HW.out, HZ.out]
  go_wp2_with fail
  refine (known_any w1).mono ?_
  rintro e w2 ⟨rfl, hbn⟩
  have HBB2 := Lib.hid (below_then HBB1.out hbn)
  have HK2 := Lib.hid (HK1.out.later hbn)
  have HX2 := Lib.hid (HX1.out.later hbn)
  have HD2 := Lib.hid (HD1.out.later hbn)
  have HR2 := Lib.hid (HR1.out.later hbn)
  have HS2 := Lib.hid (HS1.out.later hbn)
  clear hbn
  go_wp2_with ((with_reducible refine wpList_load_bkG2 ?_ 25 _ rfl z rfl l 25 HK2.out _ Tryz.underlying25 rfl HFL.out.rsize ?_); rfl)
  rw [HXE.out]
  refine (HFW.out w2 HX2.out).mono ?_
  rintro e w3 ⟨rfl, hbn⟩
  have HBB3 := Lib.hid (below_then HBB2.out hbn)
  have HK3 := Lib.hid (HK2.out.later hbn)
  have HX3 := Lib.hid (HX2.out.later hbn)
  have HD3 := Lib.hid (HD2.out.later hbn)
  have HR3 := Lib.hid (HR2.out.later hbn)
  have HS3 := Lib.hid (HS2.out.later hbn)
  clear hbn
  obtain ⟨fw, hfw⟩ : ∃ b, fewT L = b := ⟨_, rfl⟩
  rw [hfw]
  have HFE := Lib.hid hfw
  clear hfw HK1 HK2 HX1 HX2 HD1 HD2 HR1 HR2 HS1 HS2
  cases fw
  · go_wp2_with fail
    refine (known_any w3).mono ?_
    rintro e w4 ⟨rfl, hbn⟩
    go_wp2_with fail
    go_ret
    exact ⟨rfl, below_then HBB3.out hbn⟩
  by_cases hbig : (20 : Int) < n5
  · go_wp2_with fail
    refine (known_any w3).mono ?_
    rintro e w4 ⟨rfl, hbn⟩
    go_wp2_with fail
    go_ret
    exact ⟨rfl, below_then HBB3.out hbn⟩
  have HN5 : Hid (n5 ≤ 20) := by show _ ≤ 20; omega
  have HN : Hid (N ≤ 66) := by have := few_len HFE.out; rw [HLN.out] at this; exact this
  have HEA : Hid (∀ x ∈ xs, x.2.b.length ≤ 1073741000 ∧ x.2.s.length ≤ 1073741000) := fun x hx => by
    have := few_each HFE.out x.2 (by rw [← HL.out]; exact List.mem_map_of_mem hx)
    omega
  have HOF := Lib.hid (fun w' hx' => HOF.out w' hx' (by have := HN.out; omega))
  have HRR := Lib.hid (HRC.out (by have := HN.out; omega) HEA.out)
  clear HRC
  go_wp2_with (with_reducible refine wpList_load_bk rfl 25 _ rfl z rfl l 25 HK3.out _ Tryz.underlying25 rfl HFL.out.rsize ?_)
  clear hbig hn5
  rw [HXE.out]
  refine (HOF.out w3 HX3.out).mono ?_
  rintro e w4 ⟨⟨v, rfl, hown⟩, hbn⟩
  obtain ⟨A2, c2, rfl⟩ := own_form hown
  have HY4 : Hid (Txs w4 A2 N xs) := ⟨Sl.of_own hown, fun x hx => (HX3.out.th x hx).later hbn⟩
  have HBB4 := Lib.hid (below_then HBB3.out hbn)
  have HK4 := Lib.hid (HK3.out.later hbn)
  have HX4 := Lib.hid (HX3.out.later hbn)
  have HD4 := Lib.hid (HD3.out.later hbn)
  have HR4 := Lib.hid (HR3.out.later hbn)
  have HS4 := Lib.hid (HS3.out.later hbn)
  clear hbn
  clear hown HX3 HK3 HD3 HR3 HS3 HOF HFW
  have HPP := Lib.hid (HPC.out A2 c2 (by have := HN.out; omega) HEA.out)
  obtain ⟨B1, hB1⟩ : ∃ l, bkC p h m (.slice A2 N c2) = l := ⟨_, rfl⟩
  have HF1 : Hid (BkFit B1) := hB1 ▸ HFB.out A2 N c2
  rw [hB1] at HPP ⊢
  clear hB1 HPC HFB
  go_wp2_with (with_reducible refine stop_store 31 _ _ rfl ?_)
  refine StopD.go ?_
  obtain ⟨g5, hg5⟩ : ∃ g, w4.heap.size = g := ⟨_, rfl⟩
  have hbn : Below w4.heap.size w4 (w4.alloc (.cells #[.int .u8 0, .int .u8 0, .int .u8 0, .int .u8 0, .int .u8 0, .int .u8 0, .int .u8 0, .int .u8 0, .int .i64 0, .int .u8 0, .int .u8 0, .int .u8 0, .int .u8 0, .int .u8 0, .int .u8 0, .int .u8 0, .int .u8 0, .slice none 0 0] 31)) := below_new w4 _
  have kt : Bk (w4.alloc (.cells #[.int .u8 0, .int .u8 0, .int .u8 0, .int .u8 0, .int .u8 0, .int .u8 0, .int .u8 0, .int .u8 0, .int .i64 0, .int .u8 0, .int .u8 0, .int .u8 0, .int .u8 0, .int .u8 0, .int .u8 0, .int .u8 0, .int .u8 0, .slice none 0 0] 31)) g5 31 ([] ++ (zBk ++ [])) := by rw [← hg5]; exact Bk.new' w4 _ #[.int .u8 0, .int .u8 0, .int .u8 0, .int .u8 0, .int .u8 0, .int .u8 0, .int .u8 0, .int .u8 0, .int .i64 0, .int .u8 0, .int .u8 0, .int .u8 0, .int .u8 0, .int .u8 0, .int .u8 0, .int .u8 0, .int .u8 0, .slice none 0 0] rfl
  rw [hg5]
  refine wpList_store_part rfl 31 _ _ rfl g5 0 (.agg (B1).toArray) (B1) rfl rfl rfl 31 [] zBk [] kt rfl (by rw [HF1.out.len]; rfl) HF1.out.size HF1.out.one ?_
  intro w5 hp
  have hbn : Below w4.heap.size w4 w5 := hbn.grown hp.only hbn.size (fun q hq => by injection hq with hq; omega)
  have HA5 : Hid (Bk w5 g5 31 (B1)) := by show Bk _ _ _ _; have := hp.bk; simpa using this
  clear hp kt
  have HBB5 := Lib.hid (below_then HBB4.out hbn)
  have HK5 := Lib.hid (HK4.out.later hbn)
  have HX5 := Lib.hid (HX4.out.later hbn)
  have HY5 := Lib.hid (HY4.out.later hbn)
  have HD5 := Lib.hid (HD4.out.later hbn)
  have HR5 := Lib.hid (HR4.out.later hbn)
  have HS5 := Lib.hid (HS4.out.later hbn)
  clear hbn
  clear hg5 HK4 HX4 HY4 HD4 HR4 HS4
  go_wp2_with (first
    | (with_reducible refine wpList_load_bk rfl 31 _ rfl g5 rfl B1 31 HA5.out _ Tryz.underlying31 rfl HF1.out.size ?_)
    | (with_reducible refine wpList_load_bk rfl 22 _ rfl (z + 1) rfl (dl d) 22 HD5.out _ Tryz.underlying22 rfl (rdg_szd HDO.out) ?_))
  refine (HPP.out.has d HDO.out w5 HY5.out).mono ?_
  rintro e6 w6 ⟨⟨k6, b6, rfl, hR6⟩, hbn⟩
  have HP6 := Lib.hid hR6
  have HBB6 := Lib.hid (below_then HBB5.out hbn)
  have HK6 := Lib.hid (HK5.out.later hbn)
  have HX6 := Lib.hid (HX5.out.later hbn)
  have HY6 := Lib.hid (HY5.out.later hbn)
  have HD6 := Lib.hid (HD5.out.later hbn)
  have HR6 := Lib.hid (HR5.out.later hbn)
  have HS6 := Lib.hid (HS5.out.later hbn)
  have HA6 := Lib.hid (HA5.out.later hbn)
  clear hbn
  clear hR6 HK5 HX5 HY5 HD5 HR5 HS5 HA5
  go_wp2_with (first
    | (with_reducible refine wpList_load_bk rfl 25 _ rfl z rfl l 25 HK6.out _ Tryz.underlying25 rfl HFL.out.rsize ?_)
    | (with_reducible refine wpList_load_bk rfl 22 _ rfl (z + 1) rfl (dl d) 22 HD6.out _ Tryz.underlying22 rfl (rdg_szd HDO.out) ?_))
  refine (HRR.out.has d HDO.out w6 HX6.out).mono ?_
  rintro e7 w7 ⟨⟨k7, b7, rfl, hR7⟩, hbn⟩
  obtain ⟨rfl, rfl⟩ := HP6.out.same hR7
  obtain ⟨n7, hn7, his, hmx⟩ := hR7.facts
  rw [hn7]
  have HIS := Lib.hid his; have HMX := Lib.hid hmx
  have HBB7 := Lib.hid (below_then HBB6.out hbn)
  have HK7 := Lib.hid (HK6.out.later hbn)
  have HX7 := Lib.hid (HX6.out.later hbn)
  have HY7 := Lib.hid (HY6.out.later hbn)
  have HD7 := Lib.hid (HD6.out.later hbn)
  have HR7 := Lib.hid (HR6.out.later hbn)
  have HS7 := Lib.hid (HS6.out.later hbn)
  have HA7 := Lib.hid (HA6.out.later hbn)
  clear hbn
  clear HK6 HX6 HY6 HD6 HR6 HS6 HA6 HP6 hR7 hn7 his hmx
  go_wp2_with (with_reducible refine wpList_load_bk rfl 31 _ rfl g5 rfl B1 31 HA7.out _ Tryz.underlying31 rfl HF1.out.size ?_)
  have HPA := Lib.hid (HPP.out.path i w7 HY7.out); have HRA := Lib.hid (HRR.out.path i)
  obtain ⟨PE, hPE⟩ : ∃ x, pathTE h L i = x := ⟨_, rfl⟩
  obtain ⟨PT, hPT⟩ : ∃ x, pathT h L i = x := ⟨_, rfl⟩
  rw [hPE, hPT] at HPA HRA
  rw [hPT] at HPO2 HPL
  clear hPE hPT
  refine HPA.out.mono ?_
  rintro e8 w8 ⟨⟨v, rfl, hown⟩, hbn⟩
  obtain ⟨A8, c8, rfl⟩ := own_form hown
  have HO8 := Lib.hid (Sl.of_own hown)
  have HBB8 := Lib.hid (below_then HBB7.out hbn)
  have HK8 := Lib.hid (HK7.out.later hbn)
  have HX8 := Lib.hid (HX7.out.later hbn)
  have HD8 := Lib.hid (HD7.out.later hbn)
  have HR8 := Lib.hid (HR7.out.later hbn)
  have HS8 := Lib.hid (HS7.out.later hbn)
  clear hbn
  clear hown HK7 HX7 HY7 HD7 HR7 HS7 HA7 HPA
  go_wp2_with (with_reducible refine wpList_load_bk rfl 25 _ rfl z rfl l 25 HK8.out _ Tryz.underlying25 rfl HFL.out.rsize ?_)
  refine (HRA.out w8 HX8.out).mono ?_
  rintro e9 w9 ⟨⟨v, rfl, hown⟩, hbn⟩
  obtain ⟨A9, c9, rfl⟩ := own_form hown
  have HV9 := Lib.hid (Sl.of_own hown)
  have HBB9 := Lib.hid (below_then HBB8.out hbn)
  have HD9 := Lib.hid (HD8.out.later hbn)
  have HR9 := Lib.hid (HR8.out.later hbn)
  have HS9 := Lib.hid (HS8.out.later hbn)
  have HO9 := Lib.hid (HO8.out.later hbn)
  clear hbn
  clear hown HK8 HX8 HD8 HR8 HS8 HO8 HRA
  go_wp2_with fail
  go_loopw [19, 21, 63] (fun ov _ kv wr => ∃ k : Nat, k ≤ PT.length ∧ kv = .int .i64 k ∧ Hid (wr.ownsRow w9.heap.size 22 8 ov k (cellsD (PT.take k))) ∧ Hid (Below w9.heap.size w9 wr)) (fun _ _ kv _ => PT.length - (intOf kv).toNat)
  case atStart => exact ⟨0, Nat.zero_le _, rfl, World.ownsRow_nil _ _ _ _, Below.refl _ _⟩
  case round =>
    obtain ⟨k, hk, rfl, HJ, HB⟩ := hrel
    have hpl := HPL.out
    by_cases hlt : k < PT.length
    · as_aux_lemma =>
          have hki : (k : Int) < PT.length := by omega
          have hk0 : (0 : Int) ≤ k := by omega
          obtain ⟨T, hT⟩ : ∃ T, PT[k]? = some T := ⟨PT[k]'(by have := HPL.out; omega), List.getElem?_eq_getElem _⟩
          obtain ⟨b, o, rfl, _, _⟩ := (HO9.out.later HB.out).spot (by omega) (by omega)
          have hr : wr.rangeAt b (o + k * 8) (dl T) := sl_dgl (HO9.out.later HB.out) HPO2.out hT
          have HTO : Hid (DgOk T) := HPO2.out T (List.mem_of_getElem? hT)
          have HR := Lib.hid hr; have HCS := Lib.hid (cellsD_snocT hT)
          clear hr hT
          go_wp2_with (first
            | (with_reducible refine wpList_load_mid rfl 28 _ rfl b (o + k * 8) rfl (dl T) _ HR.out Tryz.underlying28 rfl (hdg_size _ HTO.out) ?_)
            | (with_reducible refine stop_store 28 _ _ rfl ?_))
          refine StopD.go ?_
          obtain ⟨g5, hg5⟩ : ∃ g, wr.heap.size = g := ⟨_, rfl⟩
          have hbn : Below wr.heap.size wr (wr.alloc (.cells #[.int .u8 0, .int .u8 0, .int .u8 0, .int .u8 0, .int .u8 0, .int .u8 0, .int .u8 0, .int .u8 0] 28)) := below_new wr _
          have kt : Bk (wr.alloc (.cells #[.int .u8 0, .int .u8 0, .int .u8 0, .int .u8 0, .int .u8 0, .int .u8 0, .int .u8 0, .int .u8 0] 28)) g5 28 ([] ++ (dl zeroD ++ [])) := by rw [← hg5]; exact Bk.new' wr _ #[.int .u8 0, .int .u8 0, .int .u8 0, .int .u8 0, .int .u8 0, .int .u8 0, .int .u8 0, .int .u8 0] rfl
          rw [hg5]
          refine wpList_store_part rfl 28 _ _ rfl g5 0 (.agg (dl T).toArray) (dl T) rfl rfl rfl 28 [] (dl zeroD) [] kt rfl (by rw [dl_len, dl_len, HTO.out.len]; rfl) (hdg_size _ HTO.out) (dl_one' _) ?_
          intro w5 hp
          have hbn : Below wr.heap.size wr w5 := hbn.grown hp.only hbn.size (fun q hq => by injection hq with hq; omega)
          have HT5 : Hid (Bk w5 g5 28 (dl T)) := by show Bk _ _ _ _; have := hp.bk; simpa using this
          clear hp kt
          clear hg5
          have HB5 := Lib.hid (below_then HB.out hbn); have HJ5 := Lib.hid (own_keep HJ.out hbn)
          clear hbn HJ HB HR
          go_wp2_with (first
            | (with_reducible refine wpList_load_bk rfl 28 _ rfl g5 rfl (dl T) 28 HT5.out _ Tryz.underlying28 rfl (hdg_size _ HTO.out) ?_)
            | (with_reducible refine stop_bs2 47 _ _ rfl ?_))
          refine StopD.go ?_
          refine wpList_bsliceG2 rfl 47 1 _ rfl #[(0, .agg (dl T).toArray)] ?_ 22 (dl T) (fun w => rbs_dgb HTO.out w) ?_
          · simp [Act.eval, Act.put]
          intro q8 x8 hq8 hb8 hbn
          have HB8 := Lib.hid (below_then HB5.out hbn); have HJ8 := Lib.hid (own_keep HJ5.out hbn); have HC8 := Lib.hid hb8
          clear hq8 hb8 hbn HB5 HJ5 HT5
          obtain ⟨i0, hi, hi0, hi1, hi2⟩ := info_parts Tryz.infoDgR
          go_wp2_with (at_builtin; refine stop_here2 ?_)
          refine StopD.go ?_
          refine wpList_app _ rfl (.tmp 67) (.tmp 69) 47 rfl w9.heap.size 22 i0 (.agg (dgA zeroD)) 8 8 Tryz.underlying47 hi hi0 hi1 hi2 rfl (by decide) _ _ _ rfl HJ8.out _ _ _ _ _ rfl (Sl.of_own (HC8.out.own (base := 0) (size := 8) (cap := 1) (n := 1) (Nat.zero_le _) (Nat.le_refl _) (by omega) (by rw [dl_len, HTO.out.len]) (by rw [List.take_of_length_le (by rw [dl_len, HTO.out.len]; exact Nat.le_refl _)]))) (dl_one' _) (by unfold maxLen; have := HPL.out; omega) (by have := HPL.out; omega) HB8.out.size ?_
          intro v9 x9 hown hgr hat
          have HB9 := Lib.hid (grown_below HB8.out HJ8.out hgr (Nat.le_refl _) HB8.out.size)
          have HJ9 : Hid (x9.ownsRow w9.heap.size 22 8 v9 (k + 1) (cellsD (PT.take (k + 1)))) := by
            show World.ownsRow _ _ _ _ _ _ _
            rw [HCS.out]; exact hown
          clear hown hgr hat HJ8 HB8 hi hi0 hi1 hi2 i0
          go_wp2_with fail
          go_roundw
          case rel => exact ⟨k + 1, hlt, by go_num, HJ9, HB9⟩
          case measure => simp [intOf]; omega
    · have hki : ¬ ((k : Int) < PT.length) := by omega
      obtain rfl : k = PT.length := by omega
      have hn5 := HN5.out
      have hown := HJ.out
      rw [List.take_of_length_le (Nat.le_refl _)] at hown
      have HQW := Lib.hid hown
      obtain ⟨AQ, cQ, hvv⟩ := own_form hown
      subst hvv
      have hbn := HB.out
      obtain ⟨w10, hw10⟩ : ∃ x, x = wr := ⟨_, rfl⟩
      subst hw10
      have HBB10 := Lib.hid (below_then HBB9.out hbn)
      have HD10 := Lib.hid (HD9.out.later hbn)
      have HR10 := Lib.hid (HR9.out.later hbn)
      have HS10 := Lib.hid (HS9.out.later hbn)
      have HV10 := Lib.hid (HV9.out.later hbn)
      clear hbn
      have HQ10 := Lib.hid (Sl.of_own HQW.out)
      clear hown HQW HD9 HR9 HS9 HO9 HV9 HB HJ hlt hk
      go_wp2_with fail
      go_loopw [22, 24, 74] (fun ov _ kv wr => ∃ k : Nat, k ≤ n5 ∧ kv = .int .i64 k ∧ Hid (wr.ownsRow w10.heap.size 28 8 ov k (cellsD (ds.take k))) ∧ Hid (Below w10.heap.size w10 wr)) (fun _ _ kv _ => n5 - (intOf kv).toNat)
      case atStart => exact ⟨0, Nat.zero_le _, rfl, World.ownsRow_nil _ _ _ _, Below.refl _ _⟩
      case round =>
        obtain ⟨k, hk, rfl, HJ, HB⟩ := hrel
        have hn5 := HN5.out
        by_cases hlt : k < n5
        · as_aux_lemma =>
              have hki : (k : Int) < n5 := by omega
              have hk0 : (0 : Int) ≤ k := by omega
              obtain ⟨T, hT⟩ : ∃ T, ds[k]? = some T := ⟨ds[k]'(by have := HDL.out; omega), List.getElem?_eq_getElem _⟩
              obtain ⟨b, o, rfl, _, _⟩ := (HS10.out.later HB.out).spot (by omega) (by omega)
              have hr : wr.rangeAt b (o + k * 8) (dl T) := sl_dgl (HS10.out.later HB.out) HDS.out hT
              have HTO : Hid (DgOk T) := HDS.out T (List.mem_of_getElem? hT)
              have HR := Lib.hid hr; have HCS := Lib.hid (cellsD_snocT hT)
              clear hr hT
              go_wp2_with (first
                | (with_reducible refine wpList_load_mid rfl 22 _ rfl b (o + k * 8) rfl (dl T) _ HR.out Tryz.underlying22 rfl (rdg_szd HTO.out) ?_)
                | (with_reducible refine stop_store 22 _ _ rfl ?_))
              refine StopD.go ?_
              obtain ⟨g5, hg5⟩ : ∃ g, wr.heap.size = g := ⟨_, rfl⟩
              have hbn : Below wr.heap.size wr (wr.alloc (.cells #[.int .u8 0, .int .u8 0, .int .u8 0, .int .u8 0, .int .u8 0, .int .u8 0, .int .u8 0, .int .u8 0] 22)) := below_new wr _
              have kt : Bk (wr.alloc (.cells #[.int .u8 0, .int .u8 0, .int .u8 0, .int .u8 0, .int .u8 0, .int .u8 0, .int .u8 0, .int .u8 0] 22)) g5 22 ([] ++ (dl zeroD ++ [])) := by rw [← hg5]; exact Bk.new' wr _ #[.int .u8 0, .int .u8 0, .int .u8 0, .int .u8 0, .int .u8 0, .int .u8 0, .int .u8 0, .int .u8 0] rfl
              rw [hg5]
              refine wpList_store_part rfl 22 _ _ rfl g5 0 (.agg (dl T).toArray) (dl T) rfl rfl rfl 22 [] (dl zeroD) [] kt rfl (dg_lensd HTO.out) (rdg_szd HTO.out) (dl_one' _) ?_
              intro w5 hp
              have hbn : Below wr.heap.size wr w5 := hbn.grown hp.only hbn.size (fun q hq => by injection hq with hq; omega)
              have HT5 : Hid (Bk w5 g5 22 (dl T)) := by show Bk _ _ _ _; have := hp.bk; simpa using this
              clear hp kt
              clear hg5
              have HB5 := Lib.hid (below_then HB.out hbn); have HJ5 := Lib.hid (own_keep HJ.out hbn)
              clear hbn HJ HB HR
              go_wp2_with (first
                | (with_reducible refine wpList_load_bk rfl 22 _ rfl g5 rfl (dl T) 22 HT5.out _ Tryz.underlying22 rfl (rdg_szd HTO.out) ?_)
                | (with_reducible refine stop_bs2 51 _ _ rfl ?_))
              refine StopD.go ?_
              refine wpList_bsliceG2 rfl 51 1 _ rfl #[(0, .agg (dl T).toArray)] ?_ 28 (dl T) (fun w => bs_dgb HTO.out w) ?_
              · simp [Act.eval, Act.put]
              intro q8 x8 hq8 hb8 hbn
              have HB8 := Lib.hid (below_then HB5.out hbn); have HJ8 := Lib.hid (own_keep HJ5.out hbn); have HC8 := Lib.hid hb8
              clear hq8 hb8 hbn HB5 HJ5 HT5
              obtain ⟨i0, hi, hi0, hi1, hi2⟩ := info_parts Tryz.infoDgB
              go_wp2_with (at_builtin; refine stop_here2 ?_)
              refine StopD.go ?_
              refine wpList_app _ rfl (.tmp 78) (.tmp 80) 51 rfl w10.heap.size 28 i0 (.agg (dgA zeroD)) 8 8 Tryz.underlying51 hi hi0 hi1 hi2 rfl (by decide) _ _ _ rfl HJ8.out _ _ _ _ _ rfl (Sl.of_own (HC8.out.own (base := 0) (size := 8) (cap := 1) (n := 1) (Nat.zero_le _) (Nat.le_refl _) (by omega) (by rw [dl_len, HTO.out.len]) (by rw [List.take_of_length_le (by rw [dl_len, HTO.out.len]; exact Nat.le_refl _)]))) (dl_one' _) (by unfold maxLen; have := HN5.out; omega) (by have := HN5.out; omega) HB8.out.size ?_
              intro v9 x9 hown hgr hat
              have HB9 := Lib.hid (grown_below HB8.out HJ8.out hgr (Nat.le_refl _) HB8.out.size)
              have HJ9 : Hid (x9.ownsRow w10.heap.size 28 8 v9 (k + 1) (cellsD (ds.take (k + 1)))) := by
                show World.ownsRow _ _ _ _ _ _ _
                rw [HCS.out]; exact hown
              clear hown hgr hat HJ8 HB8 hi hi0 hi1 hi2 i0
              go_wp2_with fail
              go_roundw
              case rel => exact ⟨k + 1, hlt, by go_num, HJ9, HB9⟩
              case measure => simp [intOf]; omega
        · have hki : ¬ ((k : Int) < n5) := by omega
          obtain rfl : k = n5 := by omega
          have hown := HJ.out
          rw [List.take_of_length_le (by have := HDL.out; omega)] at hown
          obtain ⟨AL, cL, hvv⟩ := own_form hown
          subst hvv
          have HLL := Lib.hid (Sl.of_own hown)
          have hbn := HB.out
          have HBBr := Lib.hid (below_then HBB10.out hbn)
          have HDr := Lib.hid (HD10.out.later hbn)
          have HRr := Lib.hid (HR10.out.later hbn)
          have HSr := Lib.hid (HS10.out.later hbn)
          have HVr := Lib.hid (HV10.out.later hbn)
          have HQr := Lib.hid (HQ10.out.later hbn)
          clear hbn
          clear hown HJ HB HD10 HR10 HS10 HV10 HQ10
          have HSM := Lib.hid (fun w' (hb : Below wr.heap.size wr w') => rSame_any w' AQ A9 PT.length PT.length cQ c9 PT PT HPO2.out HPO2.out (HQr.out.later hb) (HVr.out.later hb))
          have HSH := Lib.hid (fun w' (hb : Below wr.heap.size wr w') => shown_any26 w' r i d HRO.out HDO.out AL k cL ds HDS.out (HLL.out.later hb))
          have HCK := Lib.hid (fun w' (hb : Below wr.heap.size wr w') => rcheck04_any w' r i d HRO.out HDO.out A5 k c5 ds HDS.out (HSr.out.later hb))
          have hee : eqD PT PT = true := by unfold eqD; simp
          rw [hee] at HSM
          obtain ⟨CI, hCI⟩ : ∃ x, checkI r i d ds = x := ⟨_, rfl⟩
          rw [hCI] at HSH HCK
          clear hee hCI
          go_wp2_with fail
          refine wp_region_held_drew (S := fun w' => Bk w' (z + 1) 22 (dl d) ∧ Bk w' (z + 2) 22 (dl r)) (by kernel_rfl) ⟨Bk.drew HDr.out, Bk.drew HRr.out⟩ (fun hHeld => ?_)
          have hbn : Below wr.heap.size wr wr.drew := below_draws wr wr.heap.size 1
          obtain ⟨w11, hw11⟩ : ∃ x, wr.drew = x := ⟨_, rfl⟩
          rw [hw11] at hbn hHeld ⊢
          have HBr := Lib.hid (Below.refl wr.heap.size wr)
          have HBB11 := Lib.hid (below_then HBBr.out hbn); have HD11 := Lib.hid (HDr.out.later hbn); have HR11 := Lib.hid (HRr.out.later hbn); have HB11 := Lib.hid hbn
          clear hw11 hbn
          have his := HIS.out
          have hmx := HMX.out
          refine wpAnyH_take (i := 0) (v := ?_) rfl (by kernel_rfl) (by kernel_rfl) (by kernel_rfl) (fun _ _ _ h => h) (Or.inl ⟨by rfl, ?_⟩) (by assumption) ?_
          rotate_left
          · intro w hSw
            (try dsimp only at hSw)
            go_simp
            try with_reducible rfl
          try simp only [Act.put, List.setIfInBounds_toArray, List.set_cons_zero, List.set_cons_succ, List.getElem_toArray, List.getElem_cons_zero, List.getElem_cons_succ]
          refine wpAnyH_take (i := 1) (v := ?_) rfl (by kernel_rfl) (by kernel_rfl) (by kernel_rfl) (fun _ _ _ h => h) (Or.inl ⟨by rfl, ?_⟩) (by assumption) ?_
          rotate_left
          · intro w hSw
            (try dsimp only at hSw)
            go_simp
            try with_reducible rfl
          try simp only [Act.put, List.setIfInBounds_toArray, List.set_cons_zero, List.set_cons_succ, List.getElem_toArray, List.getElem_cons_zero, List.getElem_cons_succ]
          refine wpAnyH_take (i := 2) (v := ?_) rfl (by kernel_rfl) (by kernel_rfl) (by kernel_rfl) (fun _ _ _ h => h) (Or.inl ⟨by rfl, ?_⟩) (by assumption) ?_
          rotate_left
          · intro w hSw
            (try dsimp only at hSw)
            go_simp
            try with_reducible rfl
          try simp only [Act.put, List.setIfInBounds_toArray, List.set_cons_zero, List.set_cons_succ, List.getElem_toArray, List.getElem_cons_zero, List.getElem_cons_succ]
          refine wpAnyH_take (i := 3) (v := ?_) rfl (by kernel_rfl) (by kernel_rfl) (by kernel_rfl) (fun _ _ _ h => h) (Or.inl ⟨by rfl, ?_⟩) (by assumption) ?_
          rotate_left
          · intro w hSw
            (try dsimp only at hSw)
            go_simp
            try with_reducible rfl
          try simp only [Act.put, List.setIfInBounds_toArray, List.set_cons_zero, List.set_cons_succ, List.getElem_toArray, List.getElem_cons_zero, List.getElem_cons_succ]
          refine wpAnyH_take (i := 4) (v := ?_) rfl (by kernel_rfl) (by kernel_rfl) (by kernel_rfl) (fun _ _ _ h => h) (Or.inl ⟨by rfl, ?_⟩) (by assumption) ?_
          rotate_left
          · intro w hSw
            (try dsimp only at hSw)
            go_simp
            try with_reducible rfl
          try simp only [Act.put, List.setIfInBounds_toArray, List.set_cons_zero, List.set_cons_succ, List.getElem_toArray, List.getElem_cons_zero, List.getElem_cons_succ]
          refine wpAnyH_take (i := 5) (v := ?_) rfl (by kernel_rfl) (by kernel_rfl) (by kernel_rfl) (fun _ _ _ h => h) (Or.inl ⟨by rfl, ?_⟩) (by assumption) ?_
          rotate_left
          · intro w hSw
            (try dsimp only at hSw)
            go_simp
            try with_reducible rfl
          try simp only [Act.put, List.setIfInBounds_toArray, List.set_cons_zero, List.set_cons_succ, List.getElem_toArray, List.getElem_cons_zero, List.getElem_cons_succ]
          refine wpAnyH_take (i := 6) (v := ?_) rfl (by kernel_rfl) (by kernel_rfl) (by kernel_rfl) (fun _ _ _ h => h) (Or.inl ⟨by rfl, ?_⟩) (by assumption) ?_
          rotate_left
          · intro w hSw
            (try dsimp only at hSw)
            go_simp
            try with_reducible rfl
          try simp only [Act.put, List.setIfInBounds_toArray, List.set_cons_zero, List.set_cons_succ, List.getElem_toArray, List.getElem_cons_zero, List.getElem_cons_succ]
          refine wpAnyH_take (i := 7) (v := ?_) rfl (by kernel_rfl) (by kernel_rfl) (by kernel_rfl) (fun _ _ _ h => h) (Or.inl ⟨by rfl, ?_⟩) (by assumption) ?_
          rotate_left
          · intro w hSw
            (try dsimp only at hSw)
            go_simp
            try with_reducible rfl
          try simp only [Act.put, List.setIfInBounds_toArray, List.set_cons_zero, List.set_cons_succ, List.getElem_toArray, List.getElem_cons_zero, List.getElem_cons_succ]
          refine wpAnyH_take (i := 8) (v := ?_) rfl (by kernel_rfl) (by kernel_rfl) (by kernel_rfl) (fun _ _ _ h => h) (Or.inl ⟨by rfl, ?_⟩) (by assumption) ?_
          rotate_left
          · intro w hSw
            (try dsimp only at hSw)
            go_simp
            try with_reducible rfl
          try simp only [Act.put, List.setIfInBounds_toArray, List.set_cons_zero, List.set_cons_succ, List.getElem_toArray, List.getElem_cons_zero, List.getElem_cons_succ]
          refine wpAnyH_take (i := 9) (v := ?_) rfl (by kernel_rfl) (by kernel_rfl) (by kernel_rfl) (fun _ _ _ h => h) (Or.inl ⟨by rfl, ?_⟩) (by assumption) ?_
          rotate_left
          · intro w hSw
            (try dsimp only at hSw)
            go_simp
            try with_reducible rfl
          try simp only [Act.put, List.setIfInBounds_toArray, List.set_cons_zero, List.set_cons_succ, List.getElem_toArray, List.getElem_cons_zero, List.getElem_cons_succ]
          refine wpAnyH_take (i := 10) (v := ?_) rfl (by kernel_rfl) (by kernel_rfl) (by kernel_rfl) (fun _ _ _ h => h) (Or.inl ⟨by rfl, ?_⟩) (by assumption) ?_
          rotate_left
          · intro w hSw
            (try dsimp only at hSw)
            go_simp
            try with_reducible rfl
          try simp only [Act.put, List.setIfInBounds_toArray, List.set_cons_zero, List.set_cons_succ, List.getElem_toArray, List.getElem_cons_zero, List.getElem_cons_succ]
          refine wpAnyH_take (i := 11) (v := ?_) rfl (by kernel_rfl) (by kernel_rfl) (by kernel_rfl) (fun _ _ _ h => h) (Or.inl ⟨by rfl, ?_⟩) (by assumption) ?_
          rotate_left
          · intro w hSw
            (try dsimp only at hSw)
            go_simp
            try with_reducible rfl
          try simp only [Act.put, List.setIfInBounds_toArray, List.set_cons_zero, List.set_cons_succ, List.getElem_toArray, List.getElem_cons_zero, List.getElem_cons_succ]
          refine wpAnyH_take (i := 12) (v := ?_) rfl (by kernel_rfl) (by kernel_rfl) (by kernel_rfl) (fun _ _ _ h => h) (Or.inl ⟨by rfl, ?_⟩) (by assumption) ?_
          rotate_left
          · intro w hSw
            (try dsimp only at hSw)
            go_simp
            try with_reducible rfl
          try simp only [Act.put, List.setIfInBounds_toArray, List.set_cons_zero, List.set_cons_succ, List.getElem_toArray, List.getElem_cons_zero, List.getElem_cons_succ]
          refine wpAnyH_take (i := 13) (v := ?_) rfl (by kernel_rfl) (by kernel_rfl) (by kernel_rfl) (fun _ _ _ h => h) (Or.inl ⟨by rfl, ?_⟩) (by assumption) ?_
          rotate_left
          · intro w hSw
            (try dsimp only at hSw)
            go_simp
            try with_reducible rfl
          try simp only [Act.put, List.setIfInBounds_toArray, List.set_cons_zero, List.set_cons_succ, List.getElem_toArray, List.getElem_cons_zero, List.getElem_cons_succ]
          refine wpAnyH_take (i := 14) (v := ?_) rfl (by kernel_rfl) (by kernel_rfl) (by kernel_rfl) (fun _ _ _ h => h) (Or.inl ⟨by rfl, ?_⟩) (by assumption) ?_
          rotate_left
          · intro w hSw
            (try dsimp only at hSw)
            go_simp
            try with_reducible rfl
          try simp only [Act.put, List.setIfInBounds_toArray, List.set_cons_zero, List.set_cons_succ, List.getElem_toArray, List.getElem_cons_zero, List.getElem_cons_succ]
          refine wpAnyH_take (i := 15) (v := ?_) rfl (by kernel_rfl) (by kernel_rfl) (by kernel_rfl) (fun _ _ _ h => h) (Or.inl ⟨by rfl, ?_⟩) (by assumption) ?_
          rotate_left
          · intro w hSw
            (try dsimp only at hSw)
            go_simp
            try with_reducible rfl
          try simp only [Act.put, List.setIfInBounds_toArray, List.set_cons_zero, List.set_cons_succ, List.getElem_toArray, List.getElem_cons_zero, List.getElem_cons_succ]
          refine wpAnyH_take (i := 16) (v := ?_) rfl (by kernel_rfl) (by kernel_rfl) (by kernel_rfl) (fun _ _ _ h => h) (Or.inl ⟨by rfl, ?_⟩) (by assumption) ?_
          rotate_left
          · intro w hSw
            (try dsimp only at hSw)
            go_simp
            try with_reducible rfl
          try simp only [Act.put, List.setIfInBounds_toArray, List.set_cons_zero, List.set_cons_succ, List.getElem_toArray, List.getElem_cons_zero, List.getElem_cons_succ]
          refine wpAnyH_take (i := 17) (v := ?_) rfl (by kernel_rfl) (by kernel_rfl) (by kernel_rfl) (fun _ _ _ h => h) (Or.inl ⟨by rfl, ?_⟩) (by assumption) ?_
          rotate_left
          · intro w hSw
            (try dsimp only at hSw)
            go_simp
            try with_reducible rfl
          try simp only [Act.put, List.setIfInBounds_toArray, List.set_cons_zero, List.set_cons_succ, List.getElem_toArray, List.getElem_cons_zero, List.getElem_cons_succ]
          refine wpAnyH_ready (rs := [18]) (by kernel_rfl) (by simp) ?_
          refine AllReadyH.cons rfl (fun K hK => ?_) AllReadyH.nil
          go_simp
          (refine (HSM.out w11 HB11.out).mono ?_; rintro e w12 ⟨rfl, q12, hq12⟩; have hbn : Below w11.heap.size w11 w12 := hq12 ▸ below_draws w11 _ q12; have HBB12 := Lib.hid (below_then HBB11.out hbn); have HD12 := Lib.hid (HD11.out.later hbn); have HR12 := Lib.hid (HR11.out.later hbn); clear hbn; have HB12 := Lib.hid (below_then HB11.out (hq12 ▸ below_draws w11 _ q12)); clear hq12 HB11 HD11 HR11)
          refine hK.out _ _ (⟨HD12.out, HR12.out⟩) (fun hHeld => ?_)
          clear hK K
          try simp only [Act.put, List.setIfInBounds_toArray, List.set_cons_zero, List.set_cons_succ, List.getElem_toArray, List.getElem_cons_zero, List.getElem_cons_succ]
          refine wpAnyH_take (i := 19) (v := ?_) rfl (by kernel_rfl) (by kernel_rfl) (by kernel_rfl) (fun _ _ _ h => h) (Or.inl ⟨by rfl, ?_⟩) (by assumption) ?_
          rotate_left
          · intro w hSw
            (try dsimp only at hSw)
            go_simp
            try with_reducible rfl
          try simp only [Act.put, List.setIfInBounds_toArray, List.set_cons_zero, List.set_cons_succ, List.getElem_toArray, List.getElem_cons_zero, List.getElem_cons_succ]
          refine wpAnyH_take (i := 20) (v := ?_) rfl (by kernel_rfl) (by kernel_rfl) (by kernel_rfl) (fun _ _ _ h => h) (Or.inl ⟨by rfl, ?_⟩) (by assumption) ?_
          rotate_left
          · intro w hSw
            (try dsimp only at hSw)
            go_simp
            try with_reducible rfl
          try simp only [Act.put, List.setIfInBounds_toArray, List.set_cons_zero, List.set_cons_succ, List.getElem_toArray, List.getElem_cons_zero, List.getElem_cons_succ]
          refine wpAnyH_take (i := 21) (v := .agg (List.toArray (dl r))) rfl (by kernel_rfl) (by kernel_rfl) (by kernel_rfl) (fun _ _ _ h => h) (yieldsIf_load_mid (by rfl) _ _ rfl _ _ rfl (dl r) _ (fun w hSw => (Bk.range (pre := []) (post := []) (by simpa using hSw.2) rfl)) Tryz.underlying22 rfl (rdg_szd HRO.out)) (by assumption) ?_
          try simp only [Act.put, List.setIfInBounds_toArray, List.set_cons_zero, List.set_cons_succ, List.getElem_toArray, List.getElem_cons_zero, List.getElem_cons_succ]
          refine wpAnyH_take (i := 22) (v := ?_) rfl (by kernel_rfl) (by kernel_rfl) (by kernel_rfl) (fun _ _ _ h => h) (Or.inl ⟨by rfl, ?_⟩) (by assumption) ?_
          rotate_left
          · intro w hSw
            (try dsimp only at hSw)
            go_simp
            try with_reducible rfl
          try simp only [Act.put, List.setIfInBounds_toArray, List.set_cons_zero, List.set_cons_succ, List.getElem_toArray, List.getElem_cons_zero, List.getElem_cons_succ]
          refine wpAnyH_take (i := 23) (v := .agg (List.toArray (dl d))) rfl (by kernel_rfl) (by kernel_rfl) (by kernel_rfl) (fun _ _ _ h => h) (yieldsIf_load_mid (by rfl) _ _ rfl _ _ rfl (dl d) _ (fun w hSw => (Bk.range (pre := []) (post := []) (by simpa using hSw.1) rfl)) Tryz.underlying22 rfl (rdg_szd HDO.out)) (by assumption) ?_
          try simp only [Act.put, List.setIfInBounds_toArray, List.set_cons_zero, List.set_cons_succ, List.getElem_toArray, List.getElem_cons_zero, List.getElem_cons_succ]
          refine wpAnyH_take (i := 24) (v := ?_) rfl (by kernel_rfl) (by kernel_rfl) (by kernel_rfl) (fun _ _ _ h => h) (Or.inl ⟨by rfl, ?_⟩) (by assumption) ?_
          rotate_left
          · intro w hSw
            (try dsimp only at hSw)
            go_simp
            try with_reducible rfl
          try simp only [Act.put, List.setIfInBounds_toArray, List.set_cons_zero, List.set_cons_succ, List.getElem_toArray, List.getElem_cons_zero, List.getElem_cons_succ]
          refine wpAnyH_take (i := 26) (v := .agg (List.toArray (dl r))) rfl (by kernel_rfl) (by kernel_rfl) (by kernel_rfl) (fun _ _ _ h => h) (yieldsIf_load_mid (by rfl) _ _ rfl _ _ rfl (dl r) _ (fun w hSw => (Bk.range (pre := []) (post := []) (by simpa using hSw.2) rfl)) Tryz.underlying22 rfl (rdg_szd HRO.out)) (by assumption) ?_
          try simp only [Act.put, List.setIfInBounds_toArray, List.set_cons_zero, List.set_cons_succ, List.getElem_toArray, List.getElem_cons_zero, List.getElem_cons_succ]
          refine wpAnyH_take (i := 27) (v := ?_) rfl (by kernel_rfl) (by kernel_rfl) (by kernel_rfl) (fun _ _ _ h => h) (Or.inl ⟨by rfl, ?_⟩) (by assumption) ?_
          rotate_left
          · intro w hSw
            (try dsimp only at hSw)
            go_simp
            try with_reducible rfl
          try simp only [Act.put, List.setIfInBounds_toArray, List.set_cons_zero, List.set_cons_succ, List.getElem_toArray, List.getElem_cons_zero, List.getElem_cons_succ]
          refine wpAnyH_take (i := 28) (v := .agg (List.toArray (dl d))) rfl (by kernel_rfl) (by kernel_rfl) (by kernel_rfl) (fun _ _ _ h => h) (yieldsIf_load_mid (by rfl) _ _ rfl _ _ rfl (dl d) _ (fun w hSw => (Bk.range (pre := []) (post := []) (by simpa using hSw.1) rfl)) Tryz.underlying22 rfl (rdg_szd HDO.out)) (by assumption) ?_
          try simp only [Act.put, List.setIfInBounds_toArray, List.set_cons_zero, List.set_cons_succ, List.getElem_toArray, List.getElem_cons_zero, List.getElem_cons_succ]
          refine wpAnyH_take (i := 29) (v := ?_) rfl (by kernel_rfl) (by kernel_rfl) (by kernel_rfl) (fun _ _ _ h => h) (Or.inl ⟨by rfl, ?_⟩) (by assumption) ?_
          rotate_left
          · intro w hSw
            (try dsimp only at hSw)
            go_simp
            try with_reducible rfl
          try simp only [Act.put, List.setIfInBounds_toArray, List.set_cons_zero, List.set_cons_succ, List.getElem_toArray, List.getElem_cons_zero, List.getElem_cons_succ]
          refine wpAnyH_ready (rs := [25]) (by kernel_rfl) (by simp) ?_
          refine AllReadyH.cons rfl (fun K hK => ?_) AllReadyH.nil
          go_simp
          (refine (HSH.out w12 HB12.out).mono ?_; rintro e w13 ⟨rfl, hbn⟩; have HB13 := Lib.hid (below_then HB12.out hbn); have HBB13 := Lib.hid (below_then HBB12.out hbn); have HD13 := Lib.hid (HD12.out.later hbn); have HR13 := Lib.hid (HR12.out.later hbn); clear hbn; clear HB12 HD12 HR12)
          refine hK.out _ _ (⟨HD13.out, HR13.out⟩) (fun hHeld => ?_)
          clear hK K
          try simp only [Act.put, List.setIfInBounds_toArray, List.set_cons_zero, List.set_cons_succ, List.getElem_toArray, List.getElem_cons_zero, List.getElem_cons_succ]
          refine wpAnyH_ready (rs := [30]) (by kernel_rfl) (by simp) ?_
          refine AllReadyH.cons rfl (fun K hK => ?_) AllReadyH.nil
          go_simp
          (refine (HCK.out w13 HB13.out).mono ?_; rintro e w14 ⟨rfl, hbn⟩; have HB14 := Lib.hid (below_then HB13.out hbn); have HBB14 := Lib.hid (below_then HBB13.out hbn); have HD14 := Lib.hid (HD13.out.later hbn); have HR14 := Lib.hid (HR13.out.later hbn); clear hbn; clear HB13 HD13 HR13)
          refine hK.out _ _ (⟨HD14.out, HR14.out⟩) (fun hHeld => ?_)
          clear hK K
          try simp only [Act.put, List.setIfInBounds_toArray, List.set_cons_zero, List.set_cons_succ, List.getElem_toArray, List.getElem_cons_zero, List.getElem_cons_succ]
          refine wpAnyH_take (i := 31) (v := ?_) rfl (by kernel_rfl) (by kernel_rfl) (by kernel_rfl) (fun _ _ _ h => h) (Or.inl ⟨by rfl, ?_⟩) (by assumption) ?_
          rotate_left
          · intro w hSw
            (try dsimp only at hSw)
            go_simp
            try with_reducible rfl
          try simp only [Act.put, List.setIfInBounds_toArray, List.set_cons_zero, List.set_cons_succ, List.getElem_toArray, List.getElem_cons_zero, List.getElem_cons_succ]
          refine wpAnyH_take (i := 32) (v := ?_) rfl (by kernel_rfl) (by kernel_rfl) (by kernel_rfl) (fun _ _ _ h => h) (Or.inl ⟨by rfl, ?_⟩) (by assumption) ?_
          rotate_left
          · intro w hSw
            (try dsimp only at hSw)
            go_simp
            try with_reducible rfl
          try simp only [Act.put, List.setIfInBounds_toArray, List.set_cons_zero, List.set_cons_succ, List.getElem_toArray, List.getElem_cons_zero, List.getElem_cons_succ]
          refine wpAnyH_take (i := 33) (v := ?_) rfl (by kernel_rfl) (by kernel_rfl) (by kernel_rfl) (fun _ _ _ h => h) (Or.inl ⟨by rfl, ?_⟩) (by assumption) ?_
          rotate_left
          · intro w hSw
            (try dsimp only at hSw)
            go_simp
            try with_reducible rfl
          try simp only [Act.put, List.setIfInBounds_toArray, List.set_cons_zero, List.set_cons_succ, List.getElem_toArray, List.getElem_cons_zero, List.getElem_cons_succ]
          refine wpAnyH_done rfl ?_ _
          go_wp2_with fail
          go_ret
          exact ⟨rfl, HBB14.out⟩
end Go.Proofs.YtbpmomedhdmloaaGreatDoor
