/- TreeWiths: the walk. -/
import Derived.Test.YtimcjldehememaaDoorT24
namespace Go.Proofs.YtimcjldehememaaDoor
open Go.RowKit

theorem cellsD_split (ls : List (List Int)) (k : Nat) : cellsD ls = cellsD (ls.take k) ++ cellsD (ls.drop k) := by
  rw [cellsD, cellsD, cellsD, ← List.flatMap_append, List.take_append_drop]
theorem DsOk.take {ls : List (List Int)} (h : DsOk ls) (k : Nat) : DsOk (ls.take k) := fun d hd => h d (List.mem_of_mem_take hd)
theorem Sl.take8 {w : World} {B n : Nat} {A : Option Addr} {ls : List (List Int)} (h : Sl w B 8 A n (cellsD ls)) (ho : DsOk ls) {k : Nat} (hk : k ≤ n) : Sl w B 8 A k (cellsD (ls.take k)) := by
  have hl := h.dgs ho
  have hlt : (cellsD (ls.take k)).length = k * 8 := by rw [cellsD_len (ho.take k), List.length_take, Nat.min_eq_left (by omega)]
  have hle := h.le
  refine ⟨hlt, by omega, fun hk0 => ?_⟩
  obtain ⟨ad, hA, hb, hc⟩ := h.mem (by omega)
  refine ⟨ad, hA, hb, fun j u hu => hc j u ?_⟩
  rw [cellsD_split ls k, List.getElem?_append_left (List.getElem?_eq_some_iff.1 hu).1]
  exact hu

theorem far8 {w : World} {g h : Nat} {t : TypeId} {ds : List Int} (k : DgAt w g t ds) (hne : ¬ g = h) (o0 o1 o2 o3 o4 o5 o6 o7 : Int) :
    DgAt ((((((((w.setCell ⟨h, 0, none⟩ (.int .u8 o0)).setCell ⟨h, 1, none⟩ (.int .u8 o1)).setCell ⟨h, 2, none⟩ (.int .u8 o2)).setCell ⟨h, 3, none⟩ (.int .u8 o3)).setCell ⟨h, 4, none⟩ (.int .u8 o4)).setCell ⟨h, 5, none⟩ (.int .u8 o5)).setCell ⟨h, 6, none⟩ (.int .u8 o6)).setCell ⟨h, 7, none⟩ (.int .u8 o7)) g t ds :=
  (((((((Bk.far k hne _).far hne _).far hne _).far hne _).far hne _).far hne _).far hne _).far hne _
theorem cells_three {w w' : World} {qa qb qc : Nat} {ta tb tc : TypeId} {a0 a1 a2 a3 a4 a5 a6 a7 b0 b1 b2 b3 b4 b5 b6 b7 c0 c1 c2 c3 c4 c5 c6 c7 : Int} (ha : DgAt w qa ta [a0, a1, a2, a3, a4, a5, a6, a7]) (hb : DgAt w qb tb [b0, b1, b2, b3, b4, b5, b6, b7]) (hc : DgAt w qc tc [c0, c1, c2, c3, c4, c5, c6, c7]) (h : Below w.heap.size w w') :
    w'.cell? ⟨qa, 0, none⟩ = some (.int .u8 a0) ∧ w'.cell? ⟨qa, 1, none⟩ = some (.int .u8 a1) ∧ w'.cell? ⟨qa, 2, none⟩ = some (.int .u8 a2) ∧ w'.cell? ⟨qa, 3, none⟩ = some (.int .u8 a3) ∧ w'.cell? ⟨qa, 4, none⟩ = some (.int .u8 a4) ∧ w'.cell? ⟨qa, 5, none⟩ = some (.int .u8 a5) ∧ w'.cell? ⟨qa, 6, none⟩ = some (.int .u8 a6) ∧ w'.cell? ⟨qa, 7, none⟩ = some (.int .u8 a7) ∧ w'.cell? ⟨qb, 0, none⟩ = some (.int .u8 b0) ∧ w'.cell? ⟨qb, 1, none⟩ = some (.int .u8 b1) ∧ w'.cell? ⟨qb, 2, none⟩ = some (.int .u8 b2) ∧ w'.cell? ⟨qb, 3, none⟩ = some (.int .u8 b3) ∧ w'.cell? ⟨qb, 4, none⟩ = some (.int .u8 b4) ∧ w'.cell? ⟨qb, 5, none⟩ = some (.int .u8 b5) ∧ w'.cell? ⟨qb, 6, none⟩ = some (.int .u8 b6) ∧ w'.cell? ⟨qb, 7, none⟩ = some (.int .u8 b7) ∧ w'.cell? ⟨qc, 0, none⟩ = some (.int .u8 c0) ∧ w'.cell? ⟨qc, 1, none⟩ = some (.int .u8 c1) ∧ w'.cell? ⟨qc, 2, none⟩ = some (.int .u8 c2) ∧ w'.cell? ⟨qc, 3, none⟩ = some (.int .u8 c3) ∧ w'.cell? ⟨qc, 4, none⟩ = some (.int .u8 c4) ∧ w'.cell? ⟨qc, 5, none⟩ = some (.int .u8 c5) ∧ w'.cell? ⟨qc, 6, none⟩ = some (.int .u8 c6) ∧ w'.cell? ⟨qc, 7, none⟩ = some (.int .u8 c7) := by
  obtain ⟨e0, e1, e2, e3, e4, e5, e6, e7⟩ := cells8 (ha.later h)
  obtain ⟨f0, f1, f2, f3, f4, f5, f6, f7⟩ := cells8 (hb.later h)
  obtain ⟨i0, i1, i2, i3, i4, i5, i6, i7⟩ := cells8 (hc.later h)
  exact ⟨e0, e1, e2, e3, e4, e5, e6, e7, f0, f1, f2, f3, f4, f5, f6, f7, i0, i1, i2, i3, i4, i5, i6, i7⟩
set_option maxRecDepth 20000 in
set_option maxHeartbeats 20000000 in
theorem law_TreeWiths (w : World) (i : Int) (leaf : List Int) (hd : DgOk leaf) (A : Option Addr) (n c : Nat) (hcap : n ≤ c) (ls : List (List Int)) (ho : DsOk ls) (root : List Int) (hr : DgOk root) (hs : Sl w w.heap.size 8 A n (cellsD ls)) :
    Calls Tryd.prog 6 #[.int .i64 i, .agg (dgA leaf), .agg (.slice A n c :: root.map (Value.int .u8)).toArray] w fun e w' => e = .returned (.bool true) ∧ Below w.heap.size w w' := by
  have hn := hs.le
  have hlen := hs.dgs ho
  obtain ⟨a0, a1, a2, a3, a4, a5, a6, a7, rfl⟩ := list8 leaf hd.len
  obtain ⟨r0, r1, r2, r3, r4, r5, r6, r7, rfl⟩ := list8 root hr.len
  obtain ⟨w1, hw1⟩ : ∃ w1, (w.alloc (.cells #[.int .u8 a0, .int .u8 a1, .int .u8 a2, .int .u8 a3, .int .u8 a4, .int .u8 a5, .int .u8 a6, .int .u8 a7] 26)).alloc (.cells #[.slice A n c, .int .u8 r0, .int .u8 r1, .int .u8 r2, .int .u8 r3, .int .u8 r4, .int .u8 r5, .int .u8 r6, .int .u8 r7] 50) = w1 := ⟨_, rfl⟩
  obtain ⟨g, hg⟩ : ∃ g, w.heap.size = g := ⟨_, rfl⟩
  have ka : DgAt w1 g 26 [a0, a1, a2, a3, a4, a5, a6, a7] := hw1 ▸ Bk.alloc (Bk.at_ _ _ _ hg rfl) _
  have kr : Bk w1 (g + 1) 50 [.slice A n c, .int .u8 r0, .int .u8 r1, .int .u8 r2, .int .u8 r3, .int .u8 r4, .int .u8 r5, .int .u8 r6, .int .u8 r7] := hw1 ▸ Bk.at_ _ _ _ (by simp [hg]) rfl
  have hb1 : Below w.heap.size w w1 := hw1 ▸ (below_new w _).alloc (by simp) _
  obtain ⟨k, hk, hk4, hkn⟩ : ∃ k, min n 14 = k ∧ k ≤ 14 ∧ k ≤ n := ⟨_, rfl, Nat.min_le_right _ _, Nat.min_le_left _ _⟩
  have hsk := (hs.later hb1).take8 ho hkn
  have hS1 : w1.cell? ⟨g + 1, 0, none⟩ = some (.slice A n c) ∧ w1.cell? ⟨g + 1, 1, none⟩ = some (.int .u8 r0) ∧ w1.cell? ⟨g + 1, 2, none⟩ = some (.int .u8 r1) ∧ w1.cell? ⟨g + 1, 3, none⟩ = some (.int .u8 r2) ∧ w1.cell? ⟨g + 1, 4, none⟩ = some (.int .u8 r3) ∧ w1.cell? ⟨g + 1, 5, none⟩ = some (.int .u8 r4) ∧ w1.cell? ⟨g + 1, 6, none⟩ = some (.int .u8 r5) ∧ w1.cell? ⟨g + 1, 7, none⟩ = some (.int .u8 r6) ∧ w1.cell? ⟨g + 1, 8, none⟩ = some (.int .u8 r7) := ⟨Bk.cell kr 0, Bk.cell kr 1, Bk.cell kr 2, Bk.cell kr 3, Bk.cell kr 4, Bk.cell kr 5, Bk.cell kr 6, Bk.cell kr 7, Bk.cell kr 8⟩
  have hlt := Bk.lt kr
  have hne : ¬ g + 1 = w1.heap.size := by omega
  have HW1 := Lib.hid hw1; have HKA := Lib.hid ka; have HB1 := Lib.hid hb1; have HSK := Lib.hid hsk; have HR := Lib.hid hr; have HA := Lib.hid hd; have HG := Lib.hid hg
  have HO := Lib.hid (ho.take k)
  clear hw1 ka kr hb1 hsk hr hd ho hs hg hlen
  have hmin : min (n : Int) 14 = k := by rw [← hk]; omega
  have hk0 : (0 : Int) ≤ k := by omega
  have hkc : (k : Int) ≤ c := by omega
  clear hk
  rw [show ((Value.slice A n c :: [r0, r1, r2, r3, r4, r5, r6, r7].map (Value.int .u8)).toArray : Array Value) = #[.slice A n c, .int .u8 r0, .int .u8 r1, .int .u8 r2, .int .u8 r3, .int .u8 r4, .int .u8 r5, .int .u8 r6, .int .u8 r7] from rfl, show dgA [a0, a1, a2, a3, a4, a5, a6, a7] = #[.int .u8 a0, .int .u8 a1, .int .u8 a2, .int .u8 a3, .int .u8 a4, .int .u8 a5, .int .u8 a6, .int .u8 a7] from rfl]
  go_enter Tryd.func6, Tryd.ntmps6
  go_upto_region 1 with fail
  rw [HW1.out, HG.out]
  obtain ⟨z0, z10, z11, z12, z13, z14, z15, z16, z17⟩ := hS1
  go_region
  obtain ⟨w2, hw2⟩ : ∃ w2, (w1.alloc (.cells #[.int .u8 r0, .int .u8 r1, .int .u8 r2, .int .u8 r3, .int .u8 r4, .int .u8 r5, .int .u8 r6, .int .u8 r7] 26)).drew = w2 := ⟨_, rfl⟩
  obtain ⟨h, hh⟩ : ∃ h, w1.heap.size = h := ⟨_, rfl⟩
  have kh : DgAt w2 h 26 [r0, r1, r2, r3, r4, r5, r6, r7] := hw2 ▸ (Bk.at_ _ _ _ hh rfl).drew
  have hb2 : Below w1.heap.size w1 w2 := hw2 ▸ (below_new w1 _).drew
  have HB2 := Lib.hid (below_then HB1.out hb2)
  have HK2 : Hid (DgAt w2 g 26 [a0, a1, a2, a3, a4, a5, a6, a7] ∧ DgAt w2 h 26 [r0, r1, r2, r3, r4, r5, r6, r7]) := ⟨HKA.out.later hb2, kh⟩
  have HSL := Lib.hid (HSK.out.later hb2)
  rw [hw2, hh]
  clear hw2 hh kh hb2 HB1 HKA HSK hlt hne HW1 z0 z10 z11 z12 z13 z14 z15 z16 z17 hmin HG
  go_wp2_with fail
  go_loopw [9, 10, 11, 12] (fun kv a10 a11 a12 wr => ∃ q : Nat, q ≤ 2 ∧ kv = .int .i64 q ∧ Hid (Below w2.heap.size w2 wr)) (fun kv _ _ _ _ => 2 - (intOf kv).toNat)
  case atStart => exact ⟨0, by omega, rfl, Below.refl _ _⟩
  case round =>
    obtain ⟨q, hq, rfl, HBr⟩ := hrel
    obtain rfl | rfl | rfl : q = 0 ∨ q = 1 ∨ q = 2 := by omega
    · skip
      obtain ⟨d0, d1, d2, d3, d4, d5, d6, d7, hdd⟩ := list8 (withI (i : Int) [a0, a1, a2, a3, a4, a5, a6, a7] (ls.take k)) (withI_ok _ _ _).len
      have HD := Lib.hid hdd
      have HDD := Lib.hid hdd
      have HDO : Hid (DgOk [d0, d1, d2, d3, d4, d5, d6, d7]) := by show DgOk _; rw [← hdd]; exact withI_ok _ _ _
      have hlk : (ls.take k).length = k := HSL.out.dgs HO.out
      have hc1 : checkI [r0, r1, r2, r3, r4, r5, r6, r7] (i : Int) [a0, a1, a2, a3, a4, a5, a6, a7] (ls.take k) = (withB (i : Int) k && eqL [d0, d1, d2, d3, d4, d5, d6, d7] [r0, r1, r2, r3, r4, r5, r6, r7]) := by rw [checkI, hdd, hlk]
      have hc2 : checkI [d0, d1, d2, d3, d4, d5, d6, d7] (i : Int) [a0, a1, a2, a3, a4, a5, a6, a7] (ls.take k) = withB (i : Int) k := by rw [checkI, hdd, hlk, eqL_self, Bool.and_true]
      obtain ⟨b, hbb⟩ : ∃ b, withB (i : Int) k = b := ⟨_, rfl⟩
      rw [hbb] at hc1 hc2
      have HWB := Lib.hid hbb; have HC1 := Lib.hid hc1; have HC2 := Lib.hid hc2
      have hSr := cells_one (HK2.out.1.later HBr.out) (Below.refl _ _)
      have HSA := Lib.hid (HSL.out.later (HBr.out.trans (below_draws _ _ 1)))
      have HSB := Lib.hid (HSL.out.later (HBr.out.trans (((below_new wr (.cells (dgA zeroD) 25)).drew).mono HBr.out.size)))
      have HNE : Hid (¬ g = wr.heap.size) := by show ¬ _; have := Bk.lt (HK2.out.1.later HBr.out); omega
      clear hdd hlk hbb hc1 hc2
      go_upto_region 8 with fail
      go_cut [11, 12] (fun p iv wx => ∃ h2, p = .pointer (some ⟨h2, 0, none⟩) ∧ iv = .bool b ∧ DgAt wx h2 25 [d0, d1, d2, d3, d4, d5, d6, d7] ∧ Below wr.heap.size wr wx)
      case first =>
        go_region_held3 (fun w' => w'.cell? ⟨g, 0, none⟩ = some (.int .u8 a0) ∧ w'.cell? ⟨g, 1, none⟩ = some (.int .u8 a1) ∧ w'.cell? ⟨g, 2, none⟩ = some (.int .u8 a2) ∧ w'.cell? ⟨g, 3, none⟩ = some (.int .u8 a3) ∧ w'.cell? ⟨g, 4, none⟩ = some (.int .u8 a4) ∧ w'.cell? ⟨g, 5, none⟩ = some (.int .u8 a5) ∧ w'.cell? ⟨g, 6, none⟩ = some (.int .u8 a6) ∧ w'.cell? ⟨g, 7, none⟩ = some (.int .u8 a7)) (first | (with_reducible exact hS4) | (with_reducible exact hS3) | (with_reducible exact hSr) | (exact cells_one (far8 ((HK2.out.1.later HBr.out).later HB4.out) hne4 _ _ _ _ _ _ _ _) (Below.refl _ _)) | go_keep)
          (first
            | (go_at_call 14; refine (plain_any _ A k c _ HO.out HSA.out (by omega)).mono ?_; rintro e w3 ⟨⟨v, rfl, hown⟩, hb3⟩; obtain ⟨B3, c3, rfl⟩ := own_form hown; have HSP := Lib.hid (Sl.of_own hown); have HB3 : Hid (Below wr.heap.size wr w3) := ((below_draws wr _ 1).trans hb3); have hS3 := cells_one (HK2.out.1.later HBr.out) HB3.out; clear hown hb3)
            | (go_at_call 14; refine (plain_any _ A k c _ HO.out HSB.out (by omega)).mono ?_; rintro e w3 ⟨⟨v, rfl, hown⟩, hb3⟩; obtain ⟨B3, c3, rfl⟩ := own_form hown; have HSP := Lib.hid (Sl.of_own hown); have HZ3 : Hid (DgAt w3 wr.heap.size 25 zeroD) := ((Bk.at_ _ _ _ rfl rfl).drew.later hb3); have HB3 : Hid (Below wr.heap.size wr w3) := (below_then (below_new wr _).drew hb3); have hS3 := cells_one (HK2.out.1.later HBr.out) HB3.out; clear hown hb3)
            | (go_at_call 22; refine (rWith_any _ (i : Int) [a0, a1, a2, a3, a4, a5, a6, a7] HA.out B3 k c3 _ HO.out HSP.out).mono ?_; rintro e w4 ⟨rfl, hb4⟩; rw [HD.out, HWB.out, show dgA [d0, d1, d2, d3, d4, d5, d6, d7] = #[.int .u8 d0, .int .u8 d1, .int .u8 d2, .int .u8 d3, .int .u8 d4, .int .u8 d5, .int .u8 d6, .int .u8 d7] from rfl]; (try (have HZ4 := Lib.hid (HZ3.out.later hb4); have hne4 := HNE.out; obtain ⟨x0, x1, x2, x3, x4, x5, x6, x7⟩ := cells8 HZ4.out; have zf := Bk.frozen HZ4.out)); have HB4 : Hid (Below wr.heap.size wr w4) := (HB3.out.trans (hb4.mono HB3.out.size)); have hS4 := cells_one (HK2.out.1.later HBr.out) HB4.out; clear hb4)
            | (go_at_call 22; refine (rWith_any _ (i : Int) [a0, a1, a2, a3, a4, a5, a6, a7] HA.out B3 k c3 _ HO.out (HSP.out.later (below_new _ _))).mono ?_; rintro e w4 ⟨rfl, hb4⟩; rw [HD.out, HWB.out, show dgA [d0, d1, d2, d3, d4, d5, d6, d7] = #[.int .u8 d0, .int .u8 d1, .int .u8 d2, .int .u8 d3, .int .u8 d4, .int .u8 d5, .int .u8 d6, .int .u8 d7] from rfl]; have HZ4 : Hid (DgAt w4 w3.heap.size 25 zeroD) := ((Bk.at_ _ _ _ rfl rfl).later hb4); have HB4 : Hid (Below wr.heap.size wr w4) := (HB3.out.trans ((below_then (below_new w3 _) hb4).mono HB3.out.size)); have hne4 : ¬ g = w3.heap.size := (by have := HB3.out.size; have := HNE.out; have := Bk.lt (HK2.out.1.later HBr.out); omega); obtain ⟨x0, x1, x2, x3, x4, x5, x6, x7⟩ := cells8 HZ4.out; have zf := Bk.frozen HZ4.out; have hS4 := cells_one (HK2.out.1.later HBr.out) HB4.out; clear hb4))
        all_goals
          go_wp2_with fail
          go_meet
          go_light
        · exact ⟨_, rfl, rfl, Bk.at_ _ _ _ rfl rfl, HB4.out.alloc HB4.out.size _⟩
        · exact ⟨_, rfl, rfl, Bk.put8 HZ4.out zeroD_ok.len _ _ _ _ _ _ _ _, below_put8 HB4.out HB3.out.size _ _ _ _ _ _ _ _⟩
        · exact ⟨_, rfl, rfl, Bk.put8 HZ4.out zeroD_ok.len _ _ _ _ _ _ _ _, below_put8 HB4.out (Nat.le_refl _) _ _ _ _ _ _ _ _⟩
      obtain ⟨h2, rfl, rfl, hd2, hb2⟩ := hcut
      have HB9 := Lib.hid (below_then HBr.out hb2)
      have HK9 : Hid (DgAt wc g 26 [a0, a1, a2, a3, a4, a5, a6, a7] ∧ DgAt wc h 26 [r0, r1, r2, r3, r4, r5, r6, r7] ∧ DgAt wc h2 25 [d0, d1, d2, d3, d4, d5, d6, d7]) := ⟨(HK2.out.1.later HBr.out).later hb2, (HK2.out.2.later HBr.out).later hb2, hd2⟩
      have HSC := Lib.hid (HSL.out.later HB9.out)
      clear hb2 hd2 HSA HSB HNE
      have hS9 := cells_three HK9.out.1 HK9.out.2.1 HK9.out.2.2 (Below.refl _ _)
      have heq1 : ∀ W, (Op.equalIn 10000 26 (.agg #[.int .u8 d0, .int .u8 d1, .int .u8 d2, .int .u8 d3, .int .u8 d4, .int .u8 d5, .int .u8 d6, .int .u8 d7]) (.agg #[.int .u8 d0, .int .u8 d1, .int .u8 d2, .int .u8 d3, .int .u8 d4, .int .u8 d5, .int .u8 d6, .int .u8 d7])).run Tryd.prog W = .ok true W := fun W => (dg_equal d0 d1 d2 d3 d4 d5 d6 d7 d0 d1 d2 d3 d4 d5 d6 d7 W).trans (by rw [eqL_self])
      obtain ⟨z, hz⟩ : ∃ z, eqL [d0, d1, d2, d3, d4, d5, d6, d7] [r0, r1, r2, r3, r4, r5, r6, r7] = z := ⟨_, rfl⟩
      have heq2 : ∀ W, (Op.equalIn 10000 25 (.agg #[.int .u8 d0, .int .u8 d1, .int .u8 d2, .int .u8 d3, .int .u8 d4, .int .u8 d5, .int .u8 d6, .int .u8 d7]) (.agg #[.int .u8 r0, .int .u8 r1, .int .u8 r2, .int .u8 r3, .int .u8 r4, .int .u8 r5, .int .u8 r6, .int .u8 r7])).run Tryd.prog W = .ok z W := fun W => (rdg_equal d0 d1 d2 d3 d4 d5 d6 d7 r0 r1 r2 r3 r4 r5 r6 r7 W).trans (by rw [hz])
      have HC3 : Hid (checkI [r0, r1, r2, r3, r4, r5, r6, r7] (i : Int) [a0, a1, a2, a3, a4, a5, a6, a7] (ls.take k) = (b && z)) := by show _ = _; rw [HC1.out, hz]
      clear HC1 HWB HD hz
      go_upto_region 9 with fail
      have tok1 : True := trivial
      rcases Bool.eq_false_or_eq_true b with rfl | rfl
      · skip
        go_region_held3 (fun w' => w'.cell? ⟨g, 0, none⟩ = some (.int .u8 a0) ∧ w'.cell? ⟨g, 1, none⟩ = some (.int .u8 a1) ∧ w'.cell? ⟨g, 2, none⟩ = some (.int .u8 a2) ∧ w'.cell? ⟨g, 3, none⟩ = some (.int .u8 a3) ∧ w'.cell? ⟨g, 4, none⟩ = some (.int .u8 a4) ∧ w'.cell? ⟨g, 5, none⟩ = some (.int .u8 a5) ∧ w'.cell? ⟨g, 6, none⟩ = some (.int .u8 a6) ∧ w'.cell? ⟨g, 7, none⟩ = some (.int .u8 a7) ∧ w'.cell? ⟨h, 0, none⟩ = some (.int .u8 r0) ∧ w'.cell? ⟨h, 1, none⟩ = some (.int .u8 r1) ∧ w'.cell? ⟨h, 2, none⟩ = some (.int .u8 r2) ∧ w'.cell? ⟨h, 3, none⟩ = some (.int .u8 r3) ∧ w'.cell? ⟨h, 4, none⟩ = some (.int .u8 r4) ∧ w'.cell? ⟨h, 5, none⟩ = some (.int .u8 r5) ∧ w'.cell? ⟨h, 6, none⟩ = some (.int .u8 r6) ∧ w'.cell? ⟨h, 7, none⟩ = some (.int .u8 r7) ∧ w'.cell? ⟨h2, 0, none⟩ = some (.int .u8 d0) ∧ w'.cell? ⟨h2, 1, none⟩ = some (.int .u8 d1) ∧ w'.cell? ⟨h2, 2, none⟩ = some (.int .u8 d2) ∧ w'.cell? ⟨h2, 3, none⟩ = some (.int .u8 d3) ∧ w'.cell? ⟨h2, 4, none⟩ = some (.int .u8 d4) ∧ w'.cell? ⟨h2, 5, none⟩ = some (.int .u8 d5) ∧ w'.cell? ⟨h2, 6, none⟩ = some (.int .u8 d6) ∧ w'.cell? ⟨h2, 7, none⟩ = some (.int .u8 d7)) (first | (with_reducible exact hSc) | (with_reducible exact hSb) | (with_reducible exact hSa) | (with_reducible exact hS9) | go_keep)
          (first
            | (go_at_call 23; have _t := tok1; refine (With_any _ (i : Int) [a0, a1, a2, a3, a4, a5, a6, a7] HA.out A k c _ HO.out (HSC.out.later (below_draws _ _ 1))).mono ?_; rintro e w5 ⟨rfl, hb5⟩; rw [HDD.out, show dgA [d0, d1, d2, d3, d4, d5, d6, d7] = #[.int .u8 d0, .int .u8 d1, .int .u8 d2, .int .u8 d3, .int .u8 d4, .int .u8 d5, .int .u8 d6, .int .u8 d7] from rfl]; have E5 : Hid (Below wc.heap.size wc w5) := ((below_draws wc _ 1).trans hb5); have hSa := cells_three HK9.out.1 HK9.out.2.1 HK9.out.2.2 E5.out; clear hb5 tok1 _t; have tok2 : True := trivial)
            | (go_at_call 21; have _t := tok2; refine (Check_any _ [r0, r1, r2, r3, r4, r5, r6, r7] (i : Int) [a0, a1, a2, a3, a4, a5, a6, a7] HR.out HA.out A k c _ HO.out (HSC.out.later E5.out)).mono ?_; rintro e w6 ⟨rfl, hb6⟩; rw [HC3.out]; have E6 : Hid (Below wc.heap.size wc w6) := (E5.out.trans (hb6.mono E5.out.size)); have hSb := cells_three HK9.out.1 HK9.out.2.1 HK9.out.2.2 E6.out; clear hb6 tok2 _t; have tok3 : True := trivial)
            | (go_at_call 21; have _t := tok3; refine (Check_any _ [d0, d1, d2, d3, d4, d5, d6, d7] (i : Int) [a0, a1, a2, a3, a4, a5, a6, a7] HDO.out HA.out A k c _ HO.out (HSC.out.later E6.out)).mono ?_; rintro e w7 ⟨rfl, hb7⟩; rw [HC2.out]; have E7 : Hid (Below wc.heap.size wc w7) := (E6.out.trans (hb7.mono E6.out.size)); have hSc := cells_three HK9.out.1 HK9.out.2.1 HK9.out.2.2 E7.out; clear hb7 tok3 _t))
        have HBF := Lib.hid (HB9.out.trans (E7.out.mono HB9.out.size))
        clear hS9 heq1 heq2 hSa hSb hSc
        go_wp2_with fail
        go_roundw
        case rel => exact ⟨0 + 1, by omega, by go_num, HBF⟩
        case measure => simp [intOf]
      · skip
        refine wp_region_noPanic ?_
        refine wp_region_held_drew (S := fun w' => w'.cell? ⟨g, 0, none⟩ = some (.int .u8 a0) ∧ w'.cell? ⟨g, 1, none⟩ = some (.int .u8 a1) ∧ w'.cell? ⟨g, 2, none⟩ = some (.int .u8 a2) ∧ w'.cell? ⟨g, 3, none⟩ = some (.int .u8 a3) ∧ w'.cell? ⟨g, 4, none⟩ = some (.int .u8 a4) ∧ w'.cell? ⟨g, 5, none⟩ = some (.int .u8 a5) ∧ w'.cell? ⟨g, 6, none⟩ = some (.int .u8 a6) ∧ w'.cell? ⟨g, 7, none⟩ = some (.int .u8 a7) ∧ w'.cell? ⟨h, 0, none⟩ = some (.int .u8 r0) ∧ w'.cell? ⟨h, 1, none⟩ = some (.int .u8 r1) ∧ w'.cell? ⟨h, 2, none⟩ = some (.int .u8 r2) ∧ w'.cell? ⟨h, 3, none⟩ = some (.int .u8 r3) ∧ w'.cell? ⟨h, 4, none⟩ = some (.int .u8 r4) ∧ w'.cell? ⟨h, 5, none⟩ = some (.int .u8 r5) ∧ w'.cell? ⟨h, 6, none⟩ = some (.int .u8 r6) ∧ w'.cell? ⟨h, 7, none⟩ = some (.int .u8 r7) ∧ w'.cell? ⟨h2, 0, none⟩ = some (.int .u8 d0) ∧ w'.cell? ⟨h2, 1, none⟩ = some (.int .u8 d1) ∧ w'.cell? ⟨h2, 2, none⟩ = some (.int .u8 d2) ∧ w'.cell? ⟨h2, 3, none⟩ = some (.int .u8 d3) ∧ w'.cell? ⟨h2, 4, none⟩ = some (.int .u8 d4) ∧ w'.cell? ⟨h2, 5, none⟩ = some (.int .u8 d5) ∧ w'.cell? ⟨h2, 6, none⟩ = some (.int .u8 d6) ∧ w'.cell? ⟨h2, 7, none⟩ = some (.int .u8 d7)) (by kernel_rfl) hS9 (fun hHeld => ?_)
        refine wpAnyH_take (i := 0) (v := ?_) rfl (by kernel_rfl) (by kernel_rfl) (by kernel_rfl) (fun _ _ _ h => h) (Or.inl ⟨by rfl, ?_⟩) (by assumption) ?_
        rotate_left
        · intro w hSw
          (try dsimp only at hSw)
          go_simp
          try with_reducible rfl
        try simp only [Act.put, List.setIfInBounds_toArray, List.set_cons_zero, List.set_cons_succ, List.getElem_toArray, List.getElem_cons_zero, List.getElem_cons_succ]
        refine wpAnyH_take (i := 1) (v := ?_) rfl (by kernel_rfl) (by kernel_rfl) (by kernel_rfl) (fun _ _ _ h => h) (Or.inl ⟨by rfl, ?_⟩) (by assumption) ?_
        rotate_left
        · intro w hSw
          (try dsimp only at hSw)
          go_simp
          try with_reducible rfl
        try simp only [Act.put, List.setIfInBounds_toArray, List.set_cons_zero, List.set_cons_succ, List.getElem_toArray, List.getElem_cons_zero, List.getElem_cons_succ]
        refine wpAnyH_take (i := 2) (v := ?_) rfl (by kernel_rfl) (by kernel_rfl) (by kernel_rfl) (fun _ _ _ h => h) (Or.inl ⟨by rfl, ?_⟩) (by assumption) ?_
        rotate_left
        · intro w hSw
          (try dsimp only at hSw)
          go_simp
          try with_reducible rfl
        try simp only [Act.put, List.setIfInBounds_toArray, List.set_cons_zero, List.set_cons_succ, List.getElem_toArray, List.getElem_cons_zero, List.getElem_cons_succ]
        refine wpAnyH_take (i := 4) (v := ?_) rfl (by kernel_rfl) (by kernel_rfl) (by kernel_rfl) (fun _ _ _ h => h) (Or.inl ⟨by rfl, ?_⟩) (by assumption) ?_
        rotate_left
        · intro w hSw
          (try dsimp only at hSw)
          go_simp
          try with_reducible rfl
        try simp only [Act.put, List.setIfInBounds_toArray, List.set_cons_zero, List.set_cons_succ, List.getElem_toArray, List.getElem_cons_zero, List.getElem_cons_succ]
        refine wpAnyH_ready (rs := [3]) (by kernel_rfl) (by simp) ?_
        refine AllReadyH.cons rfl (fun K hK => ?_) AllReadyH.nil
        go_simp
        (go_at_call 23; refine (With_any _ (i : Int) [a0, a1, a2, a3, a4, a5, a6, a7] HA.out A k c _ HO.out (HSC.out.later (below_draws _ _ 1))).mono ?_; rintro e w5 ⟨rfl, hb5⟩; rw [HDD.out, show dgA [d0, d1, d2, d3, d4, d5, d6, d7] = #[.int .u8 d0, .int .u8 d1, .int .u8 d2, .int .u8 d3, .int .u8 d4, .int .u8 d5, .int .u8 d6, .int .u8 d7] from rfl]; have E5 : Hid (Below wc.heap.size wc w5) := ((below_draws wc _ 1).trans hb5); have hSa := cells_three HK9.out.1 HK9.out.2.1 HK9.out.2.2 E5.out; clear hb5)
        refine hK.out _ _ (hSa) (fun hHeld => ?_)
        clear hK K
        try simp only [Act.put, List.setIfInBounds_toArray, List.set_cons_zero, List.set_cons_succ, List.getElem_toArray, List.getElem_cons_zero, List.getElem_cons_succ]
        refine wpAnyH_take (i := 5) (v := ?_) rfl (by kernel_rfl) (by kernel_rfl) (by kernel_rfl) (fun _ _ _ h => h) (Or.inl ⟨by rfl, ?_⟩) (by assumption) ?_
        rotate_left
        · intro w hSw
          (try dsimp only at hSw)
          go_simp
          try with_reducible rfl
        try simp only [Act.put, List.setIfInBounds_toArray, List.set_cons_zero, List.set_cons_succ, List.getElem_toArray, List.getElem_cons_zero, List.getElem_cons_succ]
        refine wpAnyH_take (i := 6) (v := ?_) rfl (by kernel_rfl) (by kernel_rfl) (by kernel_rfl) (fun _ _ _ h => h) (Or.inl ⟨by rfl, ?_⟩) (by assumption) ?_
        rotate_left
        · intro w hSw
          (try dsimp only at hSw)
          go_simp
          try with_reducible rfl
        try simp only [Act.put, List.setIfInBounds_toArray, List.set_cons_zero, List.set_cons_succ, List.getElem_toArray, List.getElem_cons_zero, List.getElem_cons_succ]
        refine wpAnyH_take (i := 7) (v := ?_) rfl (by kernel_rfl) (by kernel_rfl) (by kernel_rfl) (fun _ _ _ h => h) (Or.inl ⟨by rfl, ?_⟩) (by assumption) ?_
        rotate_left
        · intro w hSw
          (try dsimp only at hSw)
          go_simp
          try with_reducible rfl
        try simp only [Act.put, List.setIfInBounds_toArray, List.set_cons_zero, List.set_cons_succ, List.getElem_toArray, List.getElem_cons_zero, List.getElem_cons_succ]
        refine wpAnyH_take (i := 8) (v := ?_) rfl (by kernel_rfl) (by kernel_rfl) (by kernel_rfl) (fun _ _ _ h => h) (Or.inl ⟨by rfl, ?_⟩) (by assumption) ?_
        rotate_left
        · intro w hSw
          (try dsimp only at hSw)
          go_simp
          try with_reducible rfl
        try simp only [Act.put, List.setIfInBounds_toArray, List.set_cons_zero, List.set_cons_succ, List.getElem_toArray, List.getElem_cons_zero, List.getElem_cons_succ]
        refine wpAnyH_take (i := 9) (v := ?_) rfl (by kernel_rfl) (by kernel_rfl) (by kernel_rfl) (fun _ _ _ h => h) (Or.inl ⟨by rfl, ?_⟩) (by assumption) ?_
        rotate_left
        · intro w hSw
          (try dsimp only at hSw)
          go_simp
          try with_reducible rfl
        try simp only [Act.put, List.setIfInBounds_toArray, List.set_cons_zero, List.set_cons_succ, List.getElem_toArray, List.getElem_cons_zero, List.getElem_cons_succ]
        refine wpAnyH_take (i := 10) (v := ?_) rfl (by kernel_rfl) (by kernel_rfl) (by kernel_rfl) (fun _ _ _ h => h) (Or.inl ⟨by rfl, ?_⟩) (by assumption) ?_
        rotate_left
        · intro w hSw
          (try dsimp only at hSw)
          go_simp
          try with_reducible rfl
        try simp only [Act.put, List.setIfInBounds_toArray, List.set_cons_zero, List.set_cons_succ, List.getElem_toArray, List.getElem_cons_zero, List.getElem_cons_succ]
        refine wpAnyH_take (i := 12) (v := ?_) rfl (by kernel_rfl) (by kernel_rfl) (by kernel_rfl) (fun _ _ _ h => h) (Or.inl ⟨by rfl, ?_⟩) (by assumption) ?_
        rotate_left
        · intro w hSw
          (try dsimp only at hSw)
          go_simp
          try with_reducible rfl
        try simp only [Act.put, List.setIfInBounds_toArray, List.set_cons_zero, List.set_cons_succ, List.getElem_toArray, List.getElem_cons_zero, List.getElem_cons_succ]
        refine wpAnyH_ready (rs := [11]) (by kernel_rfl) (by simp) ?_
        refine AllReadyH.cons rfl (fun K hK => ?_) AllReadyH.nil
        go_simp
        (go_at_call 21; refine (Check_any _ [r0, r1, r2, r3, r4, r5, r6, r7] (i : Int) [a0, a1, a2, a3, a4, a5, a6, a7] HR.out HA.out A k c _ HO.out (HSC.out.later E5.out)).mono ?_; rintro e w6 ⟨rfl, hb6⟩; rw [HC3.out]; have E6 : Hid (Below wc.heap.size wc w6) := (E5.out.trans (hb6.mono E5.out.size)); have hSb := cells_three HK9.out.1 HK9.out.2.1 HK9.out.2.2 E6.out; clear hb6)
        refine hK.out _ _ (hSb) (fun hHeld => ?_)
        clear hK K
        try simp only [Act.put, List.setIfInBounds_toArray, List.set_cons_zero, List.set_cons_succ, List.getElem_toArray, List.getElem_cons_zero, List.getElem_cons_succ]
        refine wpAnyH_take (i := 13) (v := ?_) rfl (by kernel_rfl) (by kernel_rfl) (by kernel_rfl) (fun _ _ _ h => h) (Or.inl ⟨by rfl, ?_⟩) (by assumption) ?_
        rotate_left
        · intro w hSw
          (try dsimp only at hSw)
          go_simp
          try with_reducible rfl
        try simp only [Act.put, List.setIfInBounds_toArray, List.set_cons_zero, List.set_cons_succ, List.getElem_toArray, List.getElem_cons_zero, List.getElem_cons_succ]
        refine wpAnyH_take (i := 14) (v := undef) rfl (by kernel_rfl) (by kernel_rfl) (by kernel_rfl) (fun _ _ _ h => h) (Or.inr ⟨by rfl, rfl⟩) (by assumption) ?_
        try simp only [Act.put, List.setIfInBounds_toArray, List.set_cons_zero, List.set_cons_succ, List.getElem_toArray, List.getElem_cons_zero, List.getElem_cons_succ]
        refine wpAnyH_take (i := 15) (v := undef) rfl (by kernel_rfl) (by kernel_rfl) (by kernel_rfl) (fun _ _ _ h => h) (Or.inr ⟨by rfl, rfl⟩) (by assumption) ?_
        try simp only [Act.put, List.setIfInBounds_toArray, List.set_cons_zero, List.set_cons_succ, List.getElem_toArray, List.getElem_cons_zero, List.getElem_cons_succ]
        refine wpAnyH_take (i := 16) (v := undef) rfl (by kernel_rfl) (by kernel_rfl) (by kernel_rfl) (fun _ _ _ h => h) (Or.inr ⟨by rfl, rfl⟩) (by assumption) ?_
        try simp only [Act.put, List.setIfInBounds_toArray, List.set_cons_zero, List.set_cons_succ, List.getElem_toArray, List.getElem_cons_zero, List.getElem_cons_succ]
        refine wpAnyH_take (i := 17) (v := ?_) rfl (by kernel_rfl) (by kernel_rfl) (by kernel_rfl) (fun _ _ _ h => h) (Or.inl ⟨by rfl, ?_⟩) (by assumption) ?_
        rotate_left
        · intro w hSw
          (try dsimp only at hSw)
          go_simp
          try with_reducible rfl
        try simp only [Act.put, List.setIfInBounds_toArray, List.set_cons_zero, List.set_cons_succ, List.getElem_toArray, List.getElem_cons_zero, List.getElem_cons_succ]
        refine wpAnyH_take (i := 18) (v := ?_) rfl (by kernel_rfl) (by kernel_rfl) (by kernel_rfl) (fun _ _ _ h => h) (Or.inl ⟨by rfl, ?_⟩) (by assumption) ?_
        rotate_left
        · intro w hSw
          (try dsimp only at hSw)
          go_simp
          try with_reducible rfl
        try simp only [Act.put, List.setIfInBounds_toArray, List.set_cons_zero, List.set_cons_succ, List.getElem_toArray, List.getElem_cons_zero, List.getElem_cons_succ]
        refine wpAnyH_take (i := 19) (v := ?_) rfl (by kernel_rfl) (by kernel_rfl) (by kernel_rfl) (fun _ _ _ h => h) (Or.inl ⟨by rfl, ?_⟩) (by assumption) ?_
        rotate_left
        · intro w hSw
          (try dsimp only at hSw)
          go_simp
          try with_reducible rfl
        try simp only [Act.put, List.setIfInBounds_toArray, List.set_cons_zero, List.set_cons_succ, List.getElem_toArray, List.getElem_cons_zero, List.getElem_cons_succ]
        refine wpAnyH_take (i := 20) (v := ?_) rfl (by kernel_rfl) (by kernel_rfl) (by kernel_rfl) (fun _ _ _ h => h) (Or.inl ⟨by rfl, ?_⟩) (by assumption) ?_
        rotate_left
        · intro w hSw
          (try dsimp only at hSw)
          go_simp
          try with_reducible rfl
        try simp only [Act.put, List.setIfInBounds_toArray, List.set_cons_zero, List.set_cons_succ, List.getElem_toArray, List.getElem_cons_zero, List.getElem_cons_succ]
        refine wpAnyH_take (i := 21) (v := ?_) rfl (by kernel_rfl) (by kernel_rfl) (by kernel_rfl) (fun _ _ _ h => h) (Or.inl ⟨by rfl, ?_⟩) (by assumption) ?_
        rotate_left
        · intro w hSw
          (try dsimp only at hSw)
          go_simp
          try with_reducible rfl
        try simp only [Act.put, List.setIfInBounds_toArray, List.set_cons_zero, List.set_cons_succ, List.getElem_toArray, List.getElem_cons_zero, List.getElem_cons_succ]
        refine wpAnyH_take (i := 22) (v := ?_) rfl (by kernel_rfl) (by kernel_rfl) (by kernel_rfl) (fun _ _ _ h => h) (Or.inl ⟨by rfl, ?_⟩) (by assumption) ?_
        rotate_left
        · intro w hSw
          (try dsimp only at hSw)
          go_simp
          try with_reducible rfl
        try simp only [Act.put, List.setIfInBounds_toArray, List.set_cons_zero, List.set_cons_succ, List.getElem_toArray, List.getElem_cons_zero, List.getElem_cons_succ]
        refine wpAnyH_take (i := 23) (v := ?_) rfl (by kernel_rfl) (by kernel_rfl) (by kernel_rfl) (fun _ _ _ h => h) (Or.inl ⟨by rfl, ?_⟩) (by assumption) ?_
        rotate_left
        · intro w hSw
          (try dsimp only at hSw)
          go_simp
          try with_reducible rfl
        try simp only [Act.put, List.setIfInBounds_toArray, List.set_cons_zero, List.set_cons_succ, List.getElem_toArray, List.getElem_cons_zero, List.getElem_cons_succ]
        refine wpAnyH_take (i := 24) (v := ?_) rfl (by kernel_rfl) (by kernel_rfl) (by kernel_rfl) (fun _ _ _ h => h) (Or.inl ⟨by rfl, ?_⟩) (by assumption) ?_
        rotate_left
        · intro w hSw
          (try dsimp only at hSw)
          go_simp
          try with_reducible rfl
        try simp only [Act.put, List.setIfInBounds_toArray, List.set_cons_zero, List.set_cons_succ, List.getElem_toArray, List.getElem_cons_zero, List.getElem_cons_succ]
        refine wpAnyH_take (i := 26) (v := ?_) rfl (by kernel_rfl) (by kernel_rfl) (by kernel_rfl) (fun _ _ _ h => h) (Or.inl ⟨by rfl, ?_⟩) (by assumption) ?_
        rotate_left
        · intro w hSw
          (try dsimp only at hSw)
          go_simp
          try with_reducible rfl
        try simp only [Act.put, List.setIfInBounds_toArray, List.set_cons_zero, List.set_cons_succ, List.getElem_toArray, List.getElem_cons_zero, List.getElem_cons_succ]
        refine wpAnyH_ready (rs := [25]) (by kernel_rfl) (by simp) ?_
        refine AllReadyH.cons rfl (fun K hK => ?_) AllReadyH.nil
        go_simp
        (go_at_call 21; refine (Check_any _ [d0, d1, d2, d3, d4, d5, d6, d7] (i : Int) [a0, a1, a2, a3, a4, a5, a6, a7] HDO.out HA.out A k c _ HO.out (HSC.out.later E6.out)).mono ?_; rintro e w7 ⟨rfl, hb7⟩; rw [HC2.out]; have E7 : Hid (Below wc.heap.size wc w7) := (E6.out.trans (hb7.mono E6.out.size)); have hSc := cells_three HK9.out.1 HK9.out.2.1 HK9.out.2.2 E7.out; clear hb7)
        refine hK.out _ _ (hSc) (fun hHeld => ?_)
        clear hK K
        try simp only [Act.put, List.setIfInBounds_toArray, List.set_cons_zero, List.set_cons_succ, List.getElem_toArray, List.getElem_cons_zero, List.getElem_cons_succ]
        refine wpAnyH_take (i := 27) (v := ?_) rfl (by kernel_rfl) (by kernel_rfl) (by kernel_rfl) (fun _ _ _ h => h) (Or.inl ⟨by rfl, ?_⟩) (by assumption) ?_
        rotate_left
        · intro w hSw
          (try dsimp only at hSw)
          go_simp
          try with_reducible rfl
        try simp only [Act.put, List.setIfInBounds_toArray, List.set_cons_zero, List.set_cons_succ, List.getElem_toArray, List.getElem_cons_zero, List.getElem_cons_succ]
        refine wpAnyH_take (i := 28) (v := ?_) rfl (by kernel_rfl) (by kernel_rfl) (by kernel_rfl) (fun _ _ _ h => h) (Or.inl ⟨by rfl, ?_⟩) (by assumption) ?_
        rotate_left
        · intro w hSw
          (try dsimp only at hSw)
          go_simp
          try with_reducible rfl
        try simp only [Act.put, List.setIfInBounds_toArray, List.set_cons_zero, List.set_cons_succ, List.getElem_toArray, List.getElem_cons_zero, List.getElem_cons_succ]
        refine wpAnyH_done (by kernel_rfl) ?_ _
        refine NoPanic.normal ?_
        have HBF := Lib.hid (HB9.out.trans (E7.out.mono HB9.out.size))
        clear hS9 heq1 heq2 hSa hSb hSc
        go_wp2_with fail
        go_roundw
        case rel => exact ⟨0 + 1, by omega, by go_num, HBF⟩
        case measure => simp [intOf]
    · obtain ⟨ix, hj, hj5, hj6⟩ : ∃ ix : Int, Int.tmod (IntKind.u64.wrap i) 64 = ix ∧ IntKind.u64.wrap ix = ix ∧ IntKind.i64.wrap ix = ix := by
        obtain ⟨j, hj, hjm⟩ := rem_at (IntKind.u64.wrap i) 64 (by rw [IntKind.wrap_u64]; omega) (by decide)
        exact ⟨j, hj, by rw [IntKind.wrap_u64]; omega, by rw [IntKind.wrap_i64]; omega⟩
      obtain ⟨d0, d1, d2, d3, d4, d5, d6, d7, hdd⟩ := list8 (withI (ix : Int) [a0, a1, a2, a3, a4, a5, a6, a7] (ls.take k)) (withI_ok _ _ _).len
      have HD := Lib.hid hdd
      have HDD := Lib.hid hdd
      have HDO : Hid (DgOk [d0, d1, d2, d3, d4, d5, d6, d7]) := by show DgOk _; rw [← hdd]; exact withI_ok _ _ _
      have hlk : (ls.take k).length = k := HSL.out.dgs HO.out
      have hc1 : checkI [r0, r1, r2, r3, r4, r5, r6, r7] (ix : Int) [a0, a1, a2, a3, a4, a5, a6, a7] (ls.take k) = (withB (ix : Int) k && eqL [d0, d1, d2, d3, d4, d5, d6, d7] [r0, r1, r2, r3, r4, r5, r6, r7]) := by rw [checkI, hdd, hlk]
      have hc2 : checkI [d0, d1, d2, d3, d4, d5, d6, d7] (ix : Int) [a0, a1, a2, a3, a4, a5, a6, a7] (ls.take k) = withB (ix : Int) k := by rw [checkI, hdd, hlk, eqL_self, Bool.and_true]
      obtain ⟨b, hbb⟩ : ∃ b, withB (ix : Int) k = b := ⟨_, rfl⟩
      rw [hbb] at hc1 hc2
      have HWB := Lib.hid hbb; have HC1 := Lib.hid hc1; have HC2 := Lib.hid hc2
      have hSr := cells_one (HK2.out.1.later HBr.out) (Below.refl _ _)
      have HSA := Lib.hid (HSL.out.later (HBr.out.trans (below_draws _ _ 1)))
      have HSB := Lib.hid (HSL.out.later (HBr.out.trans (((below_new wr (.cells (dgA zeroD) 25)).drew).mono HBr.out.size)))
      have HNE : Hid (¬ g = wr.heap.size) := by show ¬ _; have := Bk.lt (HK2.out.1.later HBr.out); omega
      clear hdd hlk hbb hc1 hc2
      go_upto_region 8 with fail
      go_cut [11, 12] (fun p iv wx => ∃ h2, p = .pointer (some ⟨h2, 0, none⟩) ∧ iv = .bool b ∧ DgAt wx h2 25 [d0, d1, d2, d3, d4, d5, d6, d7] ∧ Below wr.heap.size wr wx)
      case first =>
        go_region_held3 (fun w' => w'.cell? ⟨g, 0, none⟩ = some (.int .u8 a0) ∧ w'.cell? ⟨g, 1, none⟩ = some (.int .u8 a1) ∧ w'.cell? ⟨g, 2, none⟩ = some (.int .u8 a2) ∧ w'.cell? ⟨g, 3, none⟩ = some (.int .u8 a3) ∧ w'.cell? ⟨g, 4, none⟩ = some (.int .u8 a4) ∧ w'.cell? ⟨g, 5, none⟩ = some (.int .u8 a5) ∧ w'.cell? ⟨g, 6, none⟩ = some (.int .u8 a6) ∧ w'.cell? ⟨g, 7, none⟩ = some (.int .u8 a7)) (first | (with_reducible exact hS4) | (with_reducible exact hS3) | (with_reducible exact hSr) | (exact cells_one (far8 ((HK2.out.1.later HBr.out).later HB4.out) hne4 _ _ _ _ _ _ _ _) (Below.refl _ _)) | go_keep)
          (first
            | (go_at_call 14; refine (plain_any _ A k c _ HO.out HSA.out (by omega)).mono ?_; rintro e w3 ⟨⟨v, rfl, hown⟩, hb3⟩; obtain ⟨B3, c3, rfl⟩ := own_form hown; have HSP := Lib.hid (Sl.of_own hown); have HB3 : Hid (Below wr.heap.size wr w3) := ((below_draws wr _ 1).trans hb3); have hS3 := cells_one (HK2.out.1.later HBr.out) HB3.out; clear hown hb3)
            | (go_at_call 14; refine (plain_any _ A k c _ HO.out HSB.out (by omega)).mono ?_; rintro e w3 ⟨⟨v, rfl, hown⟩, hb3⟩; obtain ⟨B3, c3, rfl⟩ := own_form hown; have HSP := Lib.hid (Sl.of_own hown); have HZ3 : Hid (DgAt w3 wr.heap.size 25 zeroD) := ((Bk.at_ _ _ _ rfl rfl).drew.later hb3); have HB3 : Hid (Below wr.heap.size wr w3) := (below_then (below_new wr _).drew hb3); have hS3 := cells_one (HK2.out.1.later HBr.out) HB3.out; clear hown hb3)
            | (go_at_call 22; refine (rWith_any _ (ix : Int) [a0, a1, a2, a3, a4, a5, a6, a7] HA.out B3 k c3 _ HO.out HSP.out).mono ?_; rintro e w4 ⟨rfl, hb4⟩; rw [HD.out, HWB.out, show dgA [d0, d1, d2, d3, d4, d5, d6, d7] = #[.int .u8 d0, .int .u8 d1, .int .u8 d2, .int .u8 d3, .int .u8 d4, .int .u8 d5, .int .u8 d6, .int .u8 d7] from rfl]; (try (have HZ4 := Lib.hid (HZ3.out.later hb4); have hne4 := HNE.out; obtain ⟨x0, x1, x2, x3, x4, x5, x6, x7⟩ := cells8 HZ4.out; have zf := Bk.frozen HZ4.out)); have HB4 : Hid (Below wr.heap.size wr w4) := (HB3.out.trans (hb4.mono HB3.out.size)); have hS4 := cells_one (HK2.out.1.later HBr.out) HB4.out; clear hb4)
            | (go_at_call 22; refine (rWith_any _ (ix : Int) [a0, a1, a2, a3, a4, a5, a6, a7] HA.out B3 k c3 _ HO.out (HSP.out.later (below_new _ _))).mono ?_; rintro e w4 ⟨rfl, hb4⟩; rw [HD.out, HWB.out, show dgA [d0, d1, d2, d3, d4, d5, d6, d7] = #[.int .u8 d0, .int .u8 d1, .int .u8 d2, .int .u8 d3, .int .u8 d4, .int .u8 d5, .int .u8 d6, .int .u8 d7] from rfl]; have HZ4 : Hid (DgAt w4 w3.heap.size 25 zeroD) := ((Bk.at_ _ _ _ rfl rfl).later hb4); have HB4 : Hid (Below wr.heap.size wr w4) := (HB3.out.trans ((below_then (below_new w3 _) hb4).mono HB3.out.size)); have hne4 : ¬ g = w3.heap.size := (by have := HB3.out.size; have := HNE.out; have := Bk.lt (HK2.out.1.later HBr.out); omega); obtain ⟨x0, x1, x2, x3, x4, x5, x6, x7⟩ := cells8 HZ4.out; have zf := Bk.frozen HZ4.out; have hS4 := cells_one (HK2.out.1.later HBr.out) HB4.out; clear hb4))
        all_goals
          go_wp2_with fail
          go_meet
          go_light
        · exact ⟨_, rfl, rfl, Bk.at_ _ _ _ rfl rfl, HB4.out.alloc HB4.out.size _⟩
        · exact ⟨_, rfl, rfl, Bk.put8 HZ4.out zeroD_ok.len _ _ _ _ _ _ _ _, below_put8 HB4.out HB3.out.size _ _ _ _ _ _ _ _⟩
        · exact ⟨_, rfl, rfl, Bk.put8 HZ4.out zeroD_ok.len _ _ _ _ _ _ _ _, below_put8 HB4.out (Nat.le_refl _) _ _ _ _ _ _ _ _⟩
      obtain ⟨h2, rfl, rfl, hd2, hb2⟩ := hcut
      have HB9 := Lib.hid (below_then HBr.out hb2)
      have HK9 : Hid (DgAt wc g 26 [a0, a1, a2, a3, a4, a5, a6, a7] ∧ DgAt wc h 26 [r0, r1, r2, r3, r4, r5, r6, r7] ∧ DgAt wc h2 25 [d0, d1, d2, d3, d4, d5, d6, d7]) := ⟨(HK2.out.1.later HBr.out).later hb2, (HK2.out.2.later HBr.out).later hb2, hd2⟩
      have HSC := Lib.hid (HSL.out.later HB9.out)
      clear hb2 hd2 HSA HSB HNE
      have hS9 := cells_three HK9.out.1 HK9.out.2.1 HK9.out.2.2 (Below.refl _ _)
      have heq1 : ∀ W, (Op.equalIn 10000 26 (.agg #[.int .u8 d0, .int .u8 d1, .int .u8 d2, .int .u8 d3, .int .u8 d4, .int .u8 d5, .int .u8 d6, .int .u8 d7]) (.agg #[.int .u8 d0, .int .u8 d1, .int .u8 d2, .int .u8 d3, .int .u8 d4, .int .u8 d5, .int .u8 d6, .int .u8 d7])).run Tryd.prog W = .ok true W := fun W => (dg_equal d0 d1 d2 d3 d4 d5 d6 d7 d0 d1 d2 d3 d4 d5 d6 d7 W).trans (by rw [eqL_self])
      obtain ⟨z, hz⟩ : ∃ z, eqL [d0, d1, d2, d3, d4, d5, d6, d7] [r0, r1, r2, r3, r4, r5, r6, r7] = z := ⟨_, rfl⟩
      have heq2 : ∀ W, (Op.equalIn 10000 25 (.agg #[.int .u8 d0, .int .u8 d1, .int .u8 d2, .int .u8 d3, .int .u8 d4, .int .u8 d5, .int .u8 d6, .int .u8 d7]) (.agg #[.int .u8 r0, .int .u8 r1, .int .u8 r2, .int .u8 r3, .int .u8 r4, .int .u8 r5, .int .u8 r6, .int .u8 r7])).run Tryd.prog W = .ok z W := fun W => (rdg_equal d0 d1 d2 d3 d4 d5 d6 d7 r0 r1 r2 r3 r4 r5 r6 r7 W).trans (by rw [hz])
      have HC3 : Hid (checkI [r0, r1, r2, r3, r4, r5, r6, r7] (ix : Int) [a0, a1, a2, a3, a4, a5, a6, a7] (ls.take k) = (b && z)) := by show _ = _; rw [HC1.out, hz]
      clear HC1 HWB HD hz
      go_upto_region 9 with fail
      have tok1 : True := trivial
      rcases Bool.eq_false_or_eq_true b with rfl | rfl
      · skip
        go_region_held3 (fun w' => w'.cell? ⟨g, 0, none⟩ = some (.int .u8 a0) ∧ w'.cell? ⟨g, 1, none⟩ = some (.int .u8 a1) ∧ w'.cell? ⟨g, 2, none⟩ = some (.int .u8 a2) ∧ w'.cell? ⟨g, 3, none⟩ = some (.int .u8 a3) ∧ w'.cell? ⟨g, 4, none⟩ = some (.int .u8 a4) ∧ w'.cell? ⟨g, 5, none⟩ = some (.int .u8 a5) ∧ w'.cell? ⟨g, 6, none⟩ = some (.int .u8 a6) ∧ w'.cell? ⟨g, 7, none⟩ = some (.int .u8 a7) ∧ w'.cell? ⟨h, 0, none⟩ = some (.int .u8 r0) ∧ w'.cell? ⟨h, 1, none⟩ = some (.int .u8 r1) ∧ w'.cell? ⟨h, 2, none⟩ = some (.int .u8 r2) ∧ w'.cell? ⟨h, 3, none⟩ = some (.int .u8 r3) ∧ w'.cell? ⟨h, 4, none⟩ = some (.int .u8 r4) ∧ w'.cell? ⟨h, 5, none⟩ = some (.int .u8 r5) ∧ w'.cell? ⟨h, 6, none⟩ = some (.int .u8 r6) ∧ w'.cell? ⟨h, 7, none⟩ = some (.int .u8 r7) ∧ w'.cell? ⟨h2, 0, none⟩ = some (.int .u8 d0) ∧ w'.cell? ⟨h2, 1, none⟩ = some (.int .u8 d1) ∧ w'.cell? ⟨h2, 2, none⟩ = some (.int .u8 d2) ∧ w'.cell? ⟨h2, 3, none⟩ = some (.int .u8 d3) ∧ w'.cell? ⟨h2, 4, none⟩ = some (.int .u8 d4) ∧ w'.cell? ⟨h2, 5, none⟩ = some (.int .u8 d5) ∧ w'.cell? ⟨h2, 6, none⟩ = some (.int .u8 d6) ∧ w'.cell? ⟨h2, 7, none⟩ = some (.int .u8 d7)) (first | (with_reducible exact hSc) | (with_reducible exact hSb) | (with_reducible exact hSa) | (with_reducible exact hS9) | go_keep)
          (first
            | (go_at_call 23; have _t := tok1; refine (With_any _ (ix : Int) [a0, a1, a2, a3, a4, a5, a6, a7] HA.out A k c _ HO.out (HSC.out.later (below_draws _ _ 1))).mono ?_; rintro e w5 ⟨rfl, hb5⟩; rw [HDD.out, show dgA [d0, d1, d2, d3, d4, d5, d6, d7] = #[.int .u8 d0, .int .u8 d1, .int .u8 d2, .int .u8 d3, .int .u8 d4, .int .u8 d5, .int .u8 d6, .int .u8 d7] from rfl]; have E5 : Hid (Below wc.heap.size wc w5) := ((below_draws wc _ 1).trans hb5); have hSa := cells_three HK9.out.1 HK9.out.2.1 HK9.out.2.2 E5.out; clear hb5 tok1 _t; have tok2 : True := trivial)
            | (go_at_call 21; have _t := tok2; refine (Check_any _ [r0, r1, r2, r3, r4, r5, r6, r7] (ix : Int) [a0, a1, a2, a3, a4, a5, a6, a7] HR.out HA.out A k c _ HO.out (HSC.out.later E5.out)).mono ?_; rintro e w6 ⟨rfl, hb6⟩; rw [HC3.out]; have E6 : Hid (Below wc.heap.size wc w6) := (E5.out.trans (hb6.mono E5.out.size)); have hSb := cells_three HK9.out.1 HK9.out.2.1 HK9.out.2.2 E6.out; clear hb6 tok2 _t; have tok3 : True := trivial)
            | (go_at_call 21; have _t := tok3; refine (Check_any _ [d0, d1, d2, d3, d4, d5, d6, d7] (ix : Int) [a0, a1, a2, a3, a4, a5, a6, a7] HDO.out HA.out A k c _ HO.out (HSC.out.later E6.out)).mono ?_; rintro e w7 ⟨rfl, hb7⟩; rw [HC2.out]; have E7 : Hid (Below wc.heap.size wc w7) := (E6.out.trans (hb7.mono E6.out.size)); have hSc := cells_three HK9.out.1 HK9.out.2.1 HK9.out.2.2 E7.out; clear hb7 tok3 _t))
        have HBF := Lib.hid (HB9.out.trans (E7.out.mono HB9.out.size))
        clear hS9 heq1 heq2 hSa hSb hSc
        go_wp2_with fail
        go_roundw
        case rel => exact ⟨1 + 1, by omega, by go_num, HBF⟩
        case measure => simp [intOf]
      · skip
        refine wp_region_noPanic ?_
        refine wp_region_held_drew (S := fun w' => w'.cell? ⟨g, 0, none⟩ = some (.int .u8 a0) ∧ w'.cell? ⟨g, 1, none⟩ = some (.int .u8 a1) ∧ w'.cell? ⟨g, 2, none⟩ = some (.int .u8 a2) ∧ w'.cell? ⟨g, 3, none⟩ = some (.int .u8 a3) ∧ w'.cell? ⟨g, 4, none⟩ = some (.int .u8 a4) ∧ w'.cell? ⟨g, 5, none⟩ = some (.int .u8 a5) ∧ w'.cell? ⟨g, 6, none⟩ = some (.int .u8 a6) ∧ w'.cell? ⟨g, 7, none⟩ = some (.int .u8 a7) ∧ w'.cell? ⟨h, 0, none⟩ = some (.int .u8 r0) ∧ w'.cell? ⟨h, 1, none⟩ = some (.int .u8 r1) ∧ w'.cell? ⟨h, 2, none⟩ = some (.int .u8 r2) ∧ w'.cell? ⟨h, 3, none⟩ = some (.int .u8 r3) ∧ w'.cell? ⟨h, 4, none⟩ = some (.int .u8 r4) ∧ w'.cell? ⟨h, 5, none⟩ = some (.int .u8 r5) ∧ w'.cell? ⟨h, 6, none⟩ = some (.int .u8 r6) ∧ w'.cell? ⟨h, 7, none⟩ = some (.int .u8 r7) ∧ w'.cell? ⟨h2, 0, none⟩ = some (.int .u8 d0) ∧ w'.cell? ⟨h2, 1, none⟩ = some (.int .u8 d1) ∧ w'.cell? ⟨h2, 2, none⟩ = some (.int .u8 d2) ∧ w'.cell? ⟨h2, 3, none⟩ = some (.int .u8 d3) ∧ w'.cell? ⟨h2, 4, none⟩ = some (.int .u8 d4) ∧ w'.cell? ⟨h2, 5, none⟩ = some (.int .u8 d5) ∧ w'.cell? ⟨h2, 6, none⟩ = some (.int .u8 d6) ∧ w'.cell? ⟨h2, 7, none⟩ = some (.int .u8 d7)) (by kernel_rfl) hS9 (fun hHeld => ?_)
        refine wpAnyH_take (i := 0) (v := ?_) rfl (by kernel_rfl) (by kernel_rfl) (by kernel_rfl) (fun _ _ _ h => h) (Or.inl ⟨by rfl, ?_⟩) (by assumption) ?_
        rotate_left
        · intro w hSw
          (try dsimp only at hSw)
          go_simp
          try with_reducible rfl
        try simp only [Act.put, List.setIfInBounds_toArray, List.set_cons_zero, List.set_cons_succ, List.getElem_toArray, List.getElem_cons_zero, List.getElem_cons_succ]
        refine wpAnyH_take (i := 1) (v := ?_) rfl (by kernel_rfl) (by kernel_rfl) (by kernel_rfl) (fun _ _ _ h => h) (Or.inl ⟨by rfl, ?_⟩) (by assumption) ?_
        rotate_left
        · intro w hSw
          (try dsimp only at hSw)
          go_simp
          try with_reducible rfl
        try simp only [Act.put, List.setIfInBounds_toArray, List.set_cons_zero, List.set_cons_succ, List.getElem_toArray, List.getElem_cons_zero, List.getElem_cons_succ]
        refine wpAnyH_take (i := 2) (v := ?_) rfl (by kernel_rfl) (by kernel_rfl) (by kernel_rfl) (fun _ _ _ h => h) (Or.inl ⟨by rfl, ?_⟩) (by assumption) ?_
        rotate_left
        · intro w hSw
          (try dsimp only at hSw)
          go_simp
          try with_reducible rfl
        try simp only [Act.put, List.setIfInBounds_toArray, List.set_cons_zero, List.set_cons_succ, List.getElem_toArray, List.getElem_cons_zero, List.getElem_cons_succ]
        refine wpAnyH_take (i := 4) (v := ?_) rfl (by kernel_rfl) (by kernel_rfl) (by kernel_rfl) (fun _ _ _ h => h) (Or.inl ⟨by rfl, ?_⟩) (by assumption) ?_
        rotate_left
        · intro w hSw
          (try dsimp only at hSw)
          go_simp
          try with_reducible rfl
        try simp only [Act.put, List.setIfInBounds_toArray, List.set_cons_zero, List.set_cons_succ, List.getElem_toArray, List.getElem_cons_zero, List.getElem_cons_succ]
        refine wpAnyH_ready (rs := [3]) (by kernel_rfl) (by simp) ?_
        refine AllReadyH.cons rfl (fun K hK => ?_) AllReadyH.nil
        go_simp
        (go_at_call 23; refine (With_any _ (ix : Int) [a0, a1, a2, a3, a4, a5, a6, a7] HA.out A k c _ HO.out (HSC.out.later (below_draws _ _ 1))).mono ?_; rintro e w5 ⟨rfl, hb5⟩; rw [HDD.out, show dgA [d0, d1, d2, d3, d4, d5, d6, d7] = #[.int .u8 d0, .int .u8 d1, .int .u8 d2, .int .u8 d3, .int .u8 d4, .int .u8 d5, .int .u8 d6, .int .u8 d7] from rfl]; have E5 : Hid (Below wc.heap.size wc w5) := ((below_draws wc _ 1).trans hb5); have hSa := cells_three HK9.out.1 HK9.out.2.1 HK9.out.2.2 E5.out; clear hb5)
        refine hK.out _ _ (hSa) (fun hHeld => ?_)
        clear hK K
        try simp only [Act.put, List.setIfInBounds_toArray, List.set_cons_zero, List.set_cons_succ, List.getElem_toArray, List.getElem_cons_zero, List.getElem_cons_succ]
        refine wpAnyH_take (i := 5) (v := ?_) rfl (by kernel_rfl) (by kernel_rfl) (by kernel_rfl) (fun _ _ _ h => h) (Or.inl ⟨by rfl, ?_⟩) (by assumption) ?_
        rotate_left
        · intro w hSw
          (try dsimp only at hSw)
          go_simp
          try with_reducible rfl
        try simp only [Act.put, List.setIfInBounds_toArray, List.set_cons_zero, List.set_cons_succ, List.getElem_toArray, List.getElem_cons_zero, List.getElem_cons_succ]
        refine wpAnyH_take (i := 6) (v := ?_) rfl (by kernel_rfl) (by kernel_rfl) (by kernel_rfl) (fun _ _ _ h => h) (Or.inl ⟨by rfl, ?_⟩) (by assumption) ?_
        rotate_left
        · intro w hSw
          (try dsimp only at hSw)
          go_simp
          try with_reducible rfl
        try simp only [Act.put, List.setIfInBounds_toArray, List.set_cons_zero, List.set_cons_succ, List.getElem_toArray, List.getElem_cons_zero, List.getElem_cons_succ]
        refine wpAnyH_take (i := 7) (v := ?_) rfl (by kernel_rfl) (by kernel_rfl) (by kernel_rfl) (fun _ _ _ h => h) (Or.inl ⟨by rfl, ?_⟩) (by assumption) ?_
        rotate_left
        · intro w hSw
          (try dsimp only at hSw)
          go_simp
          try with_reducible rfl
        try simp only [Act.put, List.setIfInBounds_toArray, List.set_cons_zero, List.set_cons_succ, List.getElem_toArray, List.getElem_cons_zero, List.getElem_cons_succ]
        refine wpAnyH_take (i := 8) (v := ?_) rfl (by kernel_rfl) (by kernel_rfl) (by kernel_rfl) (fun _ _ _ h => h) (Or.inl ⟨by rfl, ?_⟩) (by assumption) ?_
        rotate_left
        · intro w hSw
          (try dsimp only at hSw)
          go_simp
          try with_reducible rfl
        try simp only [Act.put, List.setIfInBounds_toArray, List.set_cons_zero, List.set_cons_succ, List.getElem_toArray, List.getElem_cons_zero, List.getElem_cons_succ]
        refine wpAnyH_take (i := 9) (v := ?_) rfl (by kernel_rfl) (by kernel_rfl) (by kernel_rfl) (fun _ _ _ h => h) (Or.inl ⟨by rfl, ?_⟩) (by assumption) ?_
        rotate_left
        · intro w hSw
          (try dsimp only at hSw)
          go_simp
          try with_reducible rfl
        try simp only [Act.put, List.setIfInBounds_toArray, List.set_cons_zero, List.set_cons_succ, List.getElem_toArray, List.getElem_cons_zero, List.getElem_cons_succ]
        refine wpAnyH_take (i := 10) (v := ?_) rfl (by kernel_rfl) (by kernel_rfl) (by kernel_rfl) (fun _ _ _ h => h) (Or.inl ⟨by rfl, ?_⟩) (by assumption) ?_
        rotate_left
        · intro w hSw
          (try dsimp only at hSw)
          go_simp
          try with_reducible rfl
        try simp only [Act.put, List.setIfInBounds_toArray, List.set_cons_zero, List.set_cons_succ, List.getElem_toArray, List.getElem_cons_zero, List.getElem_cons_succ]
        refine wpAnyH_take (i := 12) (v := ?_) rfl (by kernel_rfl) (by kernel_rfl) (by kernel_rfl) (fun _ _ _ h => h) (Or.inl ⟨by rfl, ?_⟩) (by assumption) ?_
        rotate_left
        · intro w hSw
          (try dsimp only at hSw)
          go_simp
          try with_reducible rfl
        try simp only [Act.put, List.setIfInBounds_toArray, List.set_cons_zero, List.set_cons_succ, List.getElem_toArray, List.getElem_cons_zero, List.getElem_cons_succ]
        refine wpAnyH_ready (rs := [11]) (by kernel_rfl) (by simp) ?_
        refine AllReadyH.cons rfl (fun K hK => ?_) AllReadyH.nil
        go_simp
        (go_at_call 21; refine (Check_any _ [r0, r1, r2, r3, r4, r5, r6, r7] (ix : Int) [a0, a1, a2, a3, a4, a5, a6, a7] HR.out HA.out A k c _ HO.out (HSC.out.later E5.out)).mono ?_; rintro e w6 ⟨rfl, hb6⟩; rw [HC3.out]; have E6 : Hid (Below wc.heap.size wc w6) := (E5.out.trans (hb6.mono E5.out.size)); have hSb := cells_three HK9.out.1 HK9.out.2.1 HK9.out.2.2 E6.out; clear hb6)
        refine hK.out _ _ (hSb) (fun hHeld => ?_)
        clear hK K
        try simp only [Act.put, List.setIfInBounds_toArray, List.set_cons_zero, List.set_cons_succ, List.getElem_toArray, List.getElem_cons_zero, List.getElem_cons_succ]
        refine wpAnyH_take (i := 13) (v := ?_) rfl (by kernel_rfl) (by kernel_rfl) (by kernel_rfl) (fun _ _ _ h => h) (Or.inl ⟨by rfl, ?_⟩) (by assumption) ?_
        rotate_left
        · intro w hSw
          (try dsimp only at hSw)
          go_simp
          try with_reducible rfl
        try simp only [Act.put, List.setIfInBounds_toArray, List.set_cons_zero, List.set_cons_succ, List.getElem_toArray, List.getElem_cons_zero, List.getElem_cons_succ]
        refine wpAnyH_take (i := 14) (v := undef) rfl (by kernel_rfl) (by kernel_rfl) (by kernel_rfl) (fun _ _ _ h => h) (Or.inr ⟨by rfl, rfl⟩) (by assumption) ?_
        try simp only [Act.put, List.setIfInBounds_toArray, List.set_cons_zero, List.set_cons_succ, List.getElem_toArray, List.getElem_cons_zero, List.getElem_cons_succ]
        refine wpAnyH_take (i := 15) (v := undef) rfl (by kernel_rfl) (by kernel_rfl) (by kernel_rfl) (fun _ _ _ h => h) (Or.inr ⟨by rfl, rfl⟩) (by assumption) ?_
        try simp only [Act.put, List.setIfInBounds_toArray, List.set_cons_zero, List.set_cons_succ, List.getElem_toArray, List.getElem_cons_zero, List.getElem_cons_succ]
        refine wpAnyH_take (i := 16) (v := undef) rfl (by kernel_rfl) (by kernel_rfl) (by kernel_rfl) (fun _ _ _ h => h) (Or.inr ⟨by rfl, rfl⟩) (by assumption) ?_
        try simp only [Act.put, List.setIfInBounds_toArray, List.set_cons_zero, List.set_cons_succ, List.getElem_toArray, List.getElem_cons_zero, List.getElem_cons_succ]
        refine wpAnyH_take (i := 17) (v := ?_) rfl (by kernel_rfl) (by kernel_rfl) (by kernel_rfl) (fun _ _ _ h => h) (Or.inl ⟨by rfl, ?_⟩) (by assumption) ?_
        rotate_left
        · intro w hSw
          (try dsimp only at hSw)
          go_simp
          try with_reducible rfl
        try simp only [Act.put, List.setIfInBounds_toArray, List.set_cons_zero, List.set_cons_succ, List.getElem_toArray, List.getElem_cons_zero, List.getElem_cons_succ]
        refine wpAnyH_take (i := 18) (v := ?_) rfl (by kernel_rfl) (by kernel_rfl) (by kernel_rfl) (fun _ _ _ h => h) (Or.inl ⟨by rfl, ?_⟩) (by assumption) ?_
        rotate_left
        · intro w hSw
          (try dsimp only at hSw)
          go_simp
          try with_reducible rfl
        try simp only [Act.put, List.setIfInBounds_toArray, List.set_cons_zero, List.set_cons_succ, List.getElem_toArray, List.getElem_cons_zero, List.getElem_cons_succ]
        refine wpAnyH_take (i := 19) (v := ?_) rfl (by kernel_rfl) (by kernel_rfl) (by kernel_rfl) (fun _ _ _ h => h) (Or.inl ⟨by rfl, ?_⟩) (by assumption) ?_
        rotate_left
        · intro w hSw
          (try dsimp only at hSw)
          go_simp
          try with_reducible rfl
        try simp only [Act.put, List.setIfInBounds_toArray, List.set_cons_zero, List.set_cons_succ, List.getElem_toArray, List.getElem_cons_zero, List.getElem_cons_succ]
        refine wpAnyH_take (i := 20) (v := ?_) rfl (by kernel_rfl) (by kernel_rfl) (by kernel_rfl) (fun _ _ _ h => h) (Or.inl ⟨by rfl, ?_⟩) (by assumption) ?_
        rotate_left
        · intro w hSw
          (try dsimp only at hSw)
          go_simp
          try with_reducible rfl
        try simp only [Act.put, List.setIfInBounds_toArray, List.set_cons_zero, List.set_cons_succ, List.getElem_toArray, List.getElem_cons_zero, List.getElem_cons_succ]
        refine wpAnyH_take (i := 21) (v := ?_) rfl (by kernel_rfl) (by kernel_rfl) (by kernel_rfl) (fun _ _ _ h => h) (Or.inl ⟨by rfl, ?_⟩) (by assumption) ?_
        rotate_left
        · intro w hSw
          (try dsimp only at hSw)
          go_simp
          try with_reducible rfl
        try simp only [Act.put, List.setIfInBounds_toArray, List.set_cons_zero, List.set_cons_succ, List.getElem_toArray, List.getElem_cons_zero, List.getElem_cons_succ]
        refine wpAnyH_take (i := 22) (v := ?_) rfl (by kernel_rfl) (by kernel_rfl) (by kernel_rfl) (fun _ _ _ h => h) (Or.inl ⟨by rfl, ?_⟩) (by assumption) ?_
        rotate_left
        · intro w hSw
          (try dsimp only at hSw)
          go_simp
          try with_reducible rfl
        try simp only [Act.put, List.setIfInBounds_toArray, List.set_cons_zero, List.set_cons_succ, List.getElem_toArray, List.getElem_cons_zero, List.getElem_cons_succ]
        refine wpAnyH_take (i := 23) (v := ?_) rfl (by kernel_rfl) (by kernel_rfl) (by kernel_rfl) (fun _ _ _ h => h) (Or.inl ⟨by rfl, ?_⟩) (by assumption) ?_
        rotate_left
        · intro w hSw
          (try dsimp only at hSw)
          go_simp
          try with_reducible rfl
        try simp only [Act.put, List.setIfInBounds_toArray, List.set_cons_zero, List.set_cons_succ, List.getElem_toArray, List.getElem_cons_zero, List.getElem_cons_succ]
        refine wpAnyH_take (i := 24) (v := ?_) rfl (by kernel_rfl) (by kernel_rfl) (by kernel_rfl) (fun _ _ _ h => h) (Or.inl ⟨by rfl, ?_⟩) (by assumption) ?_
        rotate_left
        · intro w hSw
          (try dsimp only at hSw)
          go_simp
          try with_reducible rfl
        try simp only [Act.put, List.setIfInBounds_toArray, List.set_cons_zero, List.set_cons_succ, List.getElem_toArray, List.getElem_cons_zero, List.getElem_cons_succ]
        refine wpAnyH_take (i := 26) (v := ?_) rfl (by kernel_rfl) (by kernel_rfl) (by kernel_rfl) (fun _ _ _ h => h) (Or.inl ⟨by rfl, ?_⟩) (by assumption) ?_
        rotate_left
        · intro w hSw
          (try dsimp only at hSw)
          go_simp
          try with_reducible rfl
        try simp only [Act.put, List.setIfInBounds_toArray, List.set_cons_zero, List.set_cons_succ, List.getElem_toArray, List.getElem_cons_zero, List.getElem_cons_succ]
        refine wpAnyH_ready (rs := [25]) (by kernel_rfl) (by simp) ?_
        refine AllReadyH.cons rfl (fun K hK => ?_) AllReadyH.nil
        go_simp
        (go_at_call 21; refine (Check_any _ [d0, d1, d2, d3, d4, d5, d6, d7] (ix : Int) [a0, a1, a2, a3, a4, a5, a6, a7] HDO.out HA.out A k c _ HO.out (HSC.out.later E6.out)).mono ?_; rintro e w7 ⟨rfl, hb7⟩; rw [HC2.out]; have E7 : Hid (Below wc.heap.size wc w7) := (E6.out.trans (hb7.mono E6.out.size)); have hSc := cells_three HK9.out.1 HK9.out.2.1 HK9.out.2.2 E7.out; clear hb7)
        refine hK.out _ _ (hSc) (fun hHeld => ?_)
        clear hK K
        try simp only [Act.put, List.setIfInBounds_toArray, List.set_cons_zero, List.set_cons_succ, List.getElem_toArray, List.getElem_cons_zero, List.getElem_cons_succ]
        refine wpAnyH_take (i := 27) (v := ?_) rfl (by kernel_rfl) (by kernel_rfl) (by kernel_rfl) (fun _ _ _ h => h) (Or.inl ⟨by rfl, ?_⟩) (by assumption) ?_
        rotate_left
        · intro w hSw
          (try dsimp only at hSw)
          go_simp
          try with_reducible rfl
        try simp only [Act.put, List.setIfInBounds_toArray, List.set_cons_zero, List.set_cons_succ, List.getElem_toArray, List.getElem_cons_zero, List.getElem_cons_succ]
        refine wpAnyH_take (i := 28) (v := ?_) rfl (by kernel_rfl) (by kernel_rfl) (by kernel_rfl) (fun _ _ _ h => h) (Or.inl ⟨by rfl, ?_⟩) (by assumption) ?_
        rotate_left
        · intro w hSw
          (try dsimp only at hSw)
          go_simp
          try with_reducible rfl
        try simp only [Act.put, List.setIfInBounds_toArray, List.set_cons_zero, List.set_cons_succ, List.getElem_toArray, List.getElem_cons_zero, List.getElem_cons_succ]
        refine wpAnyH_done (by kernel_rfl) ?_ _
        refine NoPanic.normal ?_
        have HBF := Lib.hid (HB9.out.trans (E7.out.mono HB9.out.size))
        clear hS9 heq1 heq2 hSa hSb hSc
        go_wp2_with fail
        go_roundw
        case rel => exact ⟨1 + 1, by omega, by go_num, HBF⟩
        case measure => simp [intOf]
    · go_wp2_with fail
      refine (told_any _).mono ?_
      rintro e w3 ⟨rfl, hb3⟩
      have HB3 := Lib.hid (below_then HB2.out (below_then HBr.out hb3))
      go_wp2_with fail
      go_ret
      exact ⟨rfl, HB3.out⟩
end Go.Proofs.YtimcjldehememaaDoor
