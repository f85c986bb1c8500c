/- Roots and paths: the document's. -/
import Derived.Test.YtimcjldehememaaDoorT9
namespace Go.Proofs.YtimcjldehememaaDoor
open Go.RowKit

theorem Tryd.infoDg : (Tryd.prog.info? 26).map (fun i => (i.zero, i.size, i.bytes)) = some (some (.agg (dgA zeroD)), 8, 8) := by kernel_rfl
theorem Tryd.infoRd : (Tryd.prog.info? 25).map (fun i => (i.zero, i.size, i.bytes)) = some (some (.agg (dgA zeroD)), 8, 8) := by kernel_rfl
def rootI (ls : List (List Int)) : List Int := if 1 ≤ ls.length ∧ ls.length ≤ 4096 then topI (nodeI ls (heightI ls.length) 0) (heightI ls.length) else zeroD
def rootE (n : Nat) : Int := if 1 ≤ n ∧ n ≤ 4096 then 0 else 2
theorem rootI_ok (ls : List (List Int)) : DgOk (rootI ls) := by unfold rootI; split <;> first | exact topI_ok _ _ | exact zeroD_ok

theorem rRoot_any (w : World) (A : Option Addr) (n c : Nat) (ls : List (List Int)) (ho : DsOk ls) (hs : Sl w w.heap.size 8 A n (cellsD ls)) :
    Calls Tryd.prog 13 #[.slice A n c] w fun e w' => e = .returned (.tuple #[.agg (dgA (rootI ls)), .int .i64 (rootE n)]) ∧ Below w.heap.size w w' := by
  have hn := hs.le
  have hlen := hs.dgs ho
  obtain ⟨w1, hw1⟩ : ∃ w1, w.alloc (.cells (dgA zeroD) 25) = w1 := ⟨_, rfl⟩
  have kz : DgAt w1 w.heap.size 25 zeroD := hw1 ▸ dg_new w _ _
  have hb1 : Below w.heap.size w w1 := hw1 ▸ below_new w _
  have HKZ := Lib.hid kz; have HB1 := Lib.hid hb1; have HW := Lib.hid hw1; have HS := Lib.hid hs; have HL := Lib.hid hlen; have HDO := Lib.hid ho
  have HHT := Lib.hid (fun w => rheight_any n w)
  clear kz hb1 hw1 hs hlen ho
  have HIZ := rdg_info zeroD zeroD_ok
  have HOZ := Lib.hid (dgA_one zeroD)
  by_cases hok : 1 ≤ n ∧ n ≤ 4096
  · have HV := Lib.hid (show heightV n = heightI n by rw [heightV, if_neg (by omega)])
    have h12 := height_le hok.2
    have HRI := Lib.hid (show rootI ls = topI (nodeI ls (heightI n) 0) (heightI n) by rw [rootI, HL.out, if_pos hok])
    have HRE := Lib.hid (show rootE n = 0 by rw [rootE, if_pos hok])
    rw [HV.out] at HHT
    obtain ⟨h, hh⟩ : ∃ h, heightI n = h := ⟨_, rfl⟩
    rw [hh] at HHT h12 HRI
    clear hh HV
    have hneg : decide ((h : Int) < 0) = false := by simp <;> omega
    go_enter Tryd.func13, Tryd.ntmps13
    go_upto_region 1 with fail
    rw [zero8, show List.replicate 8 (0 : Int) = zeroD from rfl, HW.out]
    go_wp2_with (go_at_call 17; refine (HHT.out _).mono ?_; rintro e w2 ⟨rfl, rfl⟩)
    refine (node_any A n c ls HDO.out h 0 w1 ((HS.out.below HB1.out).more HB1.out.size) h12 (by have : 2 ^ h ≤ 2 ^ 12 := Nat.pow_le_pow_right (by omega) h12; omega)).mono ?_
    rintro e w2 ⟨rfl, hb2⟩
    have HB2 := Lib.hid (HB1.out.trans (hb2.mono HB1.out.size))
    have HZ2 := Lib.hid (HKZ.out.later hb2)
    clear hb2
    go_wp2_with fail
    refine (name_any (h : Int) (by omega) (by omega) _).mono ?_
    rintro e w3 ⟨rfl, hb3⟩
    rw [Int.toNat_natCast]
    have HB3 := Lib.hid (HB2.out.trans (hb3.mono HB2.out.size))
    have HZ3 := Lib.hid (HZ2.out.later hb3)
    clear hb3
    go_wp2_with fail
    refine (rword_any _ (nodeI ls h 0) (nodeI_ok _ _ _) (rootS h) (by have := root_size h; omega)).mono ?_
    rintro e w4 ⟨rfl, hb4⟩
    rw [show wordI (nodeI ls h 0) (bytesOf (rootS h)) = rootI ls from HRI.out.symm]
    have HB4 := Lib.hid (HB3.out.trans (hb4.mono HB3.out.size))
    have HZ4 := Lib.hid (HZ3.out.later hb4)
    have HI := rdg_info (rootI ls) (rootI_ok _)
    have HO := Lib.hid (dgA_one (rootI ls))
    have HSZ : Hid ((dgA zeroD).size = (dgA (rootI ls)).size) := by show _ = _; rw [dgA_size, dgA_size, (rootI_ok _).len]; rfl
    clear hb4
    obtain ⟨C, hC⟩ : ∃ C, dgA (rootI ls) = C := ⟨_, rfl⟩
    rw [hC] at HI HO HSZ ⊢
    have HCC := Lib.hid hC
    clear hC
    go_wp2_with (refine wpList_store_row rfl 25 _ _ rfl w.heap.size C rfl rfl 25 (dgA zeroD) HZ4.out.heap HI.out HSZ.out HO.out ?_)
    refine bodyPost_ret (results_row_tmp (p := 2) (u := 3) (ty := 25) rfl _ _ w.heap.size 25 C (0, 0) _ rfl (setRow_heap _ _ _ _ _ _ HZ4.out.heap) Tryd.underlying25 rfl HI.out) rfl ?_
    rw [HRE.out, HCC.out]
    exact ⟨rfl, below_setRow HB4.out (by omega) _⟩
  · have HV := Lib.hid (show heightV n = -1 by rw [heightV, if_pos (by omega)])
    have HRI := Lib.hid (show rootI ls = zeroD by rw [rootI, HL.out, if_neg hok])
    have HRE := Lib.hid (show rootE n = 2 by rw [rootE, if_neg hok])
    rw [HV.out] at HHT
    go_enter Tryd.func13, Tryd.ntmps13
    go_upto_region 1 with fail
    rw [zero8, show List.replicate 8 (0 : Int) = zeroD from rfl, HW.out]
    go_wp2_with (first
      | (go_at_call 17; refine (HHT.out _).mono ?_; rintro e w2 ⟨rfl, rfl⟩)
      | (refine wpList_store_row rfl 25 _ _ rfl w.heap.size (dgA zeroD) rfl rfl 25 (dgA zeroD) HKZ.out.heap HIZ.out rfl HOZ.out ?_))
    refine bodyPost_ret (results_row_tmp (p := 2) (u := 3) (ty := 25) rfl _ _ w.heap.size 25 (dgA zeroD) (0, 0) _ rfl (setRow_heap _ _ _ _ _ _ HKZ.out.heap) Tryd.underlying25 rfl HIZ.out) rfl ?_
    rw [HRI.out, HRE.out]
    exact ⟨rfl, below_setRow HB1.out (by omega) _⟩

def sib (k : Nat) : Nat := if k % 2 = 1 then k - 1 else k + 1
def pathI (ls : List (List Int)) (i h : Nat) : List (List Int) := (List.range h).map fun l => nodeI ls l (sib (i / 2 ^ l))
theorem pathI_snoc (ls : List (List Int)) (i h : Nat) : pathI ls i (h + 1) = pathI ls i h ++ [nodeI ls h (sib (i / 2 ^ h))] := by
  simp [pathI, List.range_succ]
theorem pathI_ok (ls : List (List Int)) (i h : Nat) : DsOk (pathI ls i h) := by
  intro d hd
  simp only [pathI, List.mem_map] at hd
  obtain ⟨l, _, rfl⟩ := hd
  exact nodeI_ok _ _ _
theorem pathI_len (ls : List (List Int)) (i h : Nat) : (pathI ls i h).length = h := by simp [pathI]
theorem cellsD_snoc (ls : List (List Int)) (d : List Int) : cellsD (ls ++ [d]) = cellsD ls ++ d.map (Value.int .u8) := by simp [cellsD]
def pathL (ls : List (List Int)) (i : Int) : List (List Int) := if (1 ≤ ls.length ∧ ls.length ≤ 4096) ∧ 0 ≤ i ∧ i < ls.length then pathI ls i.toNat (heightI ls.length) else []
def pathE (n : Nat) (i : Int) : Int := if 1 ≤ n ∧ n ≤ 4096 then (if 0 ≤ i ∧ i < n then 0 else 9) else 2
theorem pathL_ok (ls : List (List Int)) (i : Int) : DsOk (pathL ls i) := by unfold pathL; split <;> first | exact pathI_ok _ _ _ | exact fun _ h => absurd h (by simp)

theorem node8 (A : Option Addr) (n c : Nat) (ls : List (List Int)) (ho : DsOk ls) (l k : Nat) (w : World) (hs : Sl w w.heap.size 8 A n (cellsD ls)) (hl : l ≤ 12) (hk : (k + 1) * 2 ^ l ≤ 4611686018427387904) :
    Calls Tryd.prog 33 #[.slice A n c, .int .i64 (l : Int), .int .i64 (k : Int)] w fun e w' => ∃ o0 o1 o2 o3 o4 o5 o6 o7 : Int, e = .returned (.agg #[.int .u8 o0, .int .u8 o1, .int .u8 o2, .int .u8 o3, .int .u8 o4, .int .u8 o5, .int .u8 o6, .int .u8 o7]) ∧ Hid (nodeI ls l k = [o0, o1, o2, o3, o4, o5, o6, o7]) ∧ Below w.heap.size w w' := by
  obtain ⟨o0, o1, o2, o3, o4, o5, o6, o7, ho'⟩ := list8 (nodeI ls l k) (nodeI_ok _ _ _).len
  refine (node_any A n c ls ho l k w hs hl hk).mono ?_
  rintro e w' ⟨rfl, hb⟩
  exact ⟨o0, o1, o2, o3, o4, o5, o6, o7, by rw [ho']; rfl, ho', hb⟩

set_option maxRecDepth 20000 in
theorem rPath_any (w : World) (A : Option Addr) (n c : Nat) (i : Int) (ls : List (List Int)) (ho : DsOk ls) (hs : Sl w w.heap.size 8 A n (cellsD ls)) :
    Calls Tryd.prog 19 #[.slice A n c, .int .i64 i] w fun e w' => (∃ v, e = .returned (.tuple #[v, .int .i64 (pathE n i)]) ∧ w'.ownsRow w.heap.size 25 8 v (pathL ls i).length (cellsD (pathL ls i))) ∧ Below w.heap.size w w' := by
  have hn := hs.le
  have hlen := hs.dgs ho
  have HS := Lib.hid hs; have HL := Lib.hid hlen; have HDO := Lib.hid ho
  have HHT := Lib.hid (fun w => rheight_any n w)
  clear hs hlen ho
  by_cases hok : 1 ≤ n ∧ n ≤ 4096
  · have HV := Lib.hid (show heightV n = heightI n by rw [heightV, if_neg (by omega)])
    have h12 := height_le hok.2
    rw [HV.out] at HHT
    by_cases hi0 : i < 0
    · have HRE := Lib.hid (show pathE n i = 9 by rw [pathE, if_pos hok, if_neg (by omega)])
      have HRL := Lib.hid (show pathL ls i = [] by rw [pathL, if_neg (by omega)])
      obtain ⟨h, hh⟩ : ∃ h, heightI n = h := ⟨_, rfl⟩
      rw [hh] at HHT h12
      have hneg : decide ((h : Int) < 0) = false := by simp <;> omega
      go_enter Tryd.func19, Tryd.ntmps19
      go_wp2_with (go_at_call 17; refine (HHT.out _).mono ?_; rintro e w2 ⟨rfl, rfl⟩)
      go_ret2
      rw [HRE.out, HRL.out]
      exact ⟨⟨_, rfl, World.ownsRow_nil _ _ _ _⟩, Below.refl _ _⟩
    by_cases hin : (n : Int) ≤ i
    · have HRE := Lib.hid (show pathE n i = 9 by rw [pathE, if_pos hok, if_neg (by omega)])
      have HRL := Lib.hid (show pathL ls i = [] by rw [pathL, if_neg (by rw [HL.out]; omega)])
      obtain ⟨h, hh⟩ : ∃ h, heightI n = h := ⟨_, rfl⟩
      rw [hh] at HHT h12
      have hneg : decide ((h : Int) < 0) = false := by simp <;> omega
      have hi0' : decide (i < 0) = false := by simp <;> omega
      go_enter Tryd.func19, Tryd.ntmps19
      go_wp2_with (go_at_call 17; refine (HHT.out _).mono ?_; rintro e w2 ⟨rfl, rfl⟩)
      go_ret2
      rw [HRE.out, HRL.out]
      exact ⟨⟨_, rfl, World.ownsRow_nil _ _ _ _⟩, Below.refl _ _⟩
    obtain ⟨i0, rfl⟩ : ∃ i0 : Nat, i = i0 := ⟨i.toNat, by omega⟩
    have HRE := Lib.hid (show pathE n i0 = 0 by rw [pathE, if_pos hok, if_pos (by omega)])
    have HRL := Lib.hid (show pathL ls i0 = pathI ls i0 (heightI n) by rw [pathL, if_pos (by rw [HL.out]; omega), HL.out, Int.toNat_natCast])
    obtain ⟨h, hh⟩ : ∃ h, heightI n = h := ⟨_, rfl⟩
    rw [hh] at HHT h12 HRL
    have hneg : decide ((h : Int) < 0) = false := by simp <;> omega
    have hi0' : decide ((i0 : Int) < 0) = false := by simp <;> omega
    have hi1' : decide ((n : Int) ≤ i0) = false := by simp <;> omega
    have hi2 : ¬ n ≤ i0 := by omega
    have hi3 : decide (n ≤ i0) = false := by simp <;> omega
    have hi4 : i0 ≤ 4096 := by omega
    obtain ⟨d0, hdi, hd0, hd1, hd2⟩ := info_parts Tryd.infoRd
    clear hh HV
    go_enter Tryd.func19, Tryd.ntmps19
    go_wp2_with (go_at_call 17; refine (HHT.out _).mono ?_; rintro e w2 ⟨rfl, rfl⟩)
    go_loopw [7, 8, 9] (fun vo ks ms wr => ∃ (m k : Nat), m ≤ h ∧ ks = .int .i64 k ∧ ms = .int .i64 m ∧ k ≤ 4096 ∧ Hid (k = i0 / 2 ^ m) ∧ Hid (wr.ownsRow w.heap.size 25 8 vo m (cellsD (pathI ls i0 m))) ∧ Hid (Below w.heap.size w wr)) (fun _ _ ms _ => h - (intOf ms).toNat)
    case atStart => exact ⟨0, i0, by omega, rfl, rfl, hi4, by show _ = _; simp, World.ownsRow_nil _ _ _ _, Below.refl _ _⟩
    case round =>
      obtain ⟨m, k, hm, rfl, rfl, hk, HK, HO, HB⟩ := hrel
      by_cases hlt : m < h
      · have hm1 : (m : Int) < h := by omega
        obtain ⟨q, hq⟩ : ∃ q, k / 2 = q := ⟨_, rfl⟩
        have hdv : (k : Int) / 2 = (q : Int) := by omega
        have hq4 : q ≤ 4096 := by omega
        have HQ : Hid (q = i0 / 2 ^ (m + 1)) := by
          show _ = _
          rw [← hq, HK.out, Nat.pow_succ, Nat.div_div_eq_div_mul]
        obtain ⟨s, hs⟩ : ∃ s, sib k = s := ⟨_, rfl⟩
        have hs4 : s ≤ 4097 := by rw [← hs]; unfold sib; split <;> omega
        have HSB : Hid (sib (i0 / 2 ^ m) = s) := by show _ = _; rw [← HK.out]; exact hs
        have hbd : (s + 1) * 2 ^ m ≤ 4611686018427387904 := by
          have h1 : 2 ^ m ≤ 2 ^ 12 := Nat.pow_le_pow_right (by omega) (by omega)
          have h2 : (s + 1) * 2 ^ m ≤ 4098 * 2 ^ 12 := Nat.mul_le_mul (by omega) h1
          omega
        have HBD := Lib.hid hbd
        have hsl := (HS.out.below HB.out).more HB.out.size
        have HSL := Lib.hid hsl
        clear hq hbd hsl
        by_cases hpar : k % 2 = 1
        · have hpm : (k : Int) % 2 = 1 := by omega
          have E := Lib.hid (show (k : Int) - 1 = s by rw [← hs, sib, if_pos hpar]; omega)
          clear hs hpar
          go_wp2_with fail
          rw [E.out]
          refine (node8 A n c ls HDO.out m s wr HSL.out (by omega) HBD.out).mono ?_
          rintro e w2 ⟨o0, o1, o2, o3, o4, o5, o6, o7, rfl, hnd, hb2⟩
          have HO2 := Lib.hid (own_keep HO.out hb2)
          have HB2 := Lib.hid (HB.out.trans (hb2.mono HB.out.size))
          clear hb2
          have hsz := HB2.out.size
          go_wp2_with (at_builtin; refine wpList_app _ rfl (.tmp 37) (.tmp 42) 32 rfl w.heap.size 25 d0 (.agg (dgA zeroD)) 8 8 Tryd.underlying32 hdi hd0 hd1 hd2 rfl (by decide) _ _ _ rfl (HO2.out.alloc _) _ _ 1 1 [.int .u8 o0, .int .u8 o1, .int .u8 o2, .int .u8 o3, .int .u8 o4, .int .u8 o5, .int .u8 o6, .int .u8 o7] rfl (sl_new _ #[_, _, _, _, _, _, _, _] _ 8 1 rfl (by omega)) (by simp [Value.oneCell']) (by unfold maxLen; omega) (by omega) (by simp; omega) ?_; intro v1 w3 hown1 hg1 hat1)
          have hb3 := grown_below (HB2.out.alloc HB2.out.size (.cells #[.int .u8 o0, .int .u8 o1, .int .u8 o2, .int .u8 o3, .int .u8 o4, .int .u8 o5, .int .u8 o6, .int .u8 o7] 25)) (HO2.out.alloc _) hg1 (Nat.le_refl _) (by simp; omega)
          have HO3 : Hid (w3.ownsRow w.heap.size 25 8 v1 (m + 1) (cellsD (pathI ls i0 (m + 1)))) := by
            show World.ownsRow _ _ _ _ _ _ _
            rw [pathI_snoc, cellsD_snoc, HSB.out, hnd.out]
            exact hown1
          have HB3 := Lib.hid hb3
          clear hown1 hg1 hat1 hb3
          go_roundw
          case rel => exact ⟨m + 1, q, by omega, rfl, by go_num, hq4, HQ, HO3, HB3⟩
          case measure => simp [intOf]; omega
        · have hpm : (k : Int) % 2 = 0 := by omega
          have E := Lib.hid (show (k : Int) + 1 = s by rw [← hs, sib, if_neg hpar]; omega)
          clear hs hpar
          go_wp2_with fail
          rw [E.out]
          refine (node8 A n c ls HDO.out m s wr HSL.out (by omega) HBD.out).mono ?_
          rintro e w2 ⟨o0, o1, o2, o3, o4, o5, o6, o7, rfl, hnd, hb2⟩
          have HO2 := Lib.hid (own_keep HO.out hb2)
          have HB2 := Lib.hid (HB.out.trans (hb2.mono HB.out.size))
          clear hb2
          have hsz := HB2.out.size
          go_wp2_with (at_builtin; refine wpList_app _ rfl (.tmp 37) (.tmp 42) 32 rfl w.heap.size 25 d0 (.agg (dgA zeroD)) 8 8 Tryd.underlying32 hdi hd0 hd1 hd2 rfl (by decide) _ _ _ rfl (HO2.out.alloc _) _ _ 1 1 [.int .u8 o0, .int .u8 o1, .int .u8 o2, .int .u8 o3, .int .u8 o4, .int .u8 o5, .int .u8 o6, .int .u8 o7] rfl (sl_new _ #[_, _, _, _, _, _, _, _] _ 8 1 rfl (by omega)) (by simp [Value.oneCell']) (by unfold maxLen; omega) (by omega) (by simp; omega) ?_; intro v1 w3 hown1 hg1 hat1)
          have hb3 := grown_below (HB2.out.alloc HB2.out.size (.cells #[.int .u8 o0, .int .u8 o1, .int .u8 o2, .int .u8 o3, .int .u8 o4, .int .u8 o5, .int .u8 o6, .int .u8 o7] 25)) (HO2.out.alloc _) hg1 (Nat.le_refl _) (by simp; omega)
          have HO3 : Hid (w3.ownsRow w.heap.size 25 8 v1 (m + 1) (cellsD (pathI ls i0 (m + 1)))) := by
            show World.ownsRow _ _ _ _ _ _ _
            rw [pathI_snoc, cellsD_snoc, HSB.out, hnd.out]
            exact hown1
          have HB3 := Lib.hid hb3
          clear hown1 hg1 hat1 hb3
          go_roundw
          case rel => exact ⟨m + 1, q, by omega, rfl, by go_num, hq4, HQ, HO3, HB3⟩
          case measure => simp [intOf]; omega
      · obtain rfl : m = h := by omega
        go_wp2_with fail
        go_ret2
        rw [HRE.out, HRL.out, pathI_len]
        exact ⟨⟨_, rfl, HO.out⟩, HB.out⟩
  · have HV := Lib.hid (show heightV n = -1 by rw [heightV, if_pos (by omega)])
    have HRE := Lib.hid (show pathE n i = 2 by rw [pathE, if_neg hok])
    have HRL := Lib.hid (show pathL ls i = [] by rw [pathL, HL.out, if_neg (by omega)])
    rw [HV.out] at HHT
    go_enter Tryd.func19, Tryd.ntmps19
    go_wp2_with (go_at_call 17; refine (HHT.out _).mono ?_; rintro e w2 ⟨rfl, rfl⟩)
    go_ret2
    rw [HRE.out, HRL.out]
    exact ⟨⟨_, rfl, World.ownsRow_nil _ _ _ _⟩, Below.refl _ _⟩
end Go.Proofs.YtimcjldehememaaDoor
