/- How a block is read: the document's. -/
import Derived.Test.YtbpmomedhdmloaaGreatDoorE6
namespace Go.Proofs.YtbpmomedhdmloaaGreatDoor
set_option linter.unusedSimpArgs false
set_option linter.unusedVariables false
open Go.RowKit Go.Maps

section
variable {ty : TypeId} {w0 w w' : World} {z g B : Nat} {s s' : Rd} {zs vl vl' : List Value}
theorem RgS.far (h : RgS ty w0 w z g B s zs vl) {q : Nat} (hg : w.grownBy w' (some q)) (hq : g < q) : RgS ty w0 w' z g B s zs vl :=
  have o := h.o
  ⟨h.rv.below (below_only (Below.refl _ _) hg h.lt (by omega)), h.lk.grown hg (by intro e; injection e with e; omega), h.fm, h.rs.grown hg (by intro e; injection e with e; omega), below_only h.hb hg h.hb.size (by omega), h.o⟩
theorem RgS.row {e : TypeId} {base size n : Nat} {xs : List Value} {v : Value} (h : RgS ty w0 w z g B s zs vl) (ho : w.ownsRow base e size v n xs) (hb : g < base) (hg : w.grownBy w' v.ownBlock) : RgS ty w0 w' z g B s zs vl := by
  rcases own_bk ho with ⟨rfl, _⟩ | ⟨q, cap, ys, rfl, hq, _⟩
  · exact h.later (below_grow hg)
  · have hg : w.grownBy w' (some q) := hg
    exact h.far hg (by omega)
end
theorem bk_row {e ty : TypeId} {w w' : World} {base size n gl : Nat} {xs cs : List Value} {v : Value} (h : Bk w gl ty cs) (ho : w.ownsRow base e size v n xs) (hb : gl < base) (hg : w.grownBy w' v.ownBlock) : Bk w' gl ty cs := by
  rcases own_bk ho with ⟨rfl, _⟩ | ⟨q, cap, ys, rfl, hq, _⟩
  · exact h.later (below_grow hg)
  · have hg : w.grownBy w' (some q) := hg
    exact h.grown hg (by intro e; injection e with e; omega)
theorem rz_blk (w : World) : (Instr.build 25 #[]).run Tryz.prog w = .ok (.agg zBk.toArray) w := by kernel_rfl
theorem rzBk_size : (Tryz.prog.info? 25).map (·.size) = some zBk.length := by show _ = some 18; kernel_rfl
theorem rbuild_hd {p : List Int} {h : Int} {m : List Int} (hp : DgOk p) (hm : DgOk m) (w : World) : (Instr.build 25 #[(0, .agg (dl p).toArray), (1, .int .i64 h), (2, .agg (dl m).toArray)]).run Tryz.prog w = .ok (.agg (bkC p h m (.slice none 0 0)).toArray) w := by
  obtain ⟨x0, x1, x2, x3, x4, x5, x6, x7, rfl⟩ := list8 p hp.len
  obtain ⟨y0, y1, y2, y3, y4, y5, y6, y7, rfl⟩ := list8 m hm.len
  kernel_rfl
theorem bs8_0 (w : World) : (Instr.buildSlice 60 0 #[]).run Tryz.prog w = .ok (.slice (some ⟨w.heap.size, 0, none⟩) 0 0) (w.alloc (.cells #[] 5)) := by kernel_rfl
theorem rbd_ret {w : World} {g : Nat} {cs : List Value} {n : Int} (hl : (Tryz.prog.info? 25).map (·.size) = some cs.length) (h : Bk w g 25 cs) (tmps : Array Value) (h2 : tmps.getD 2 undef = .pointer (some ⟨g, 0, none⟩)) (h3 : tmps.getD 3 undef = .int .i64 n) :
    (results Tryz.f29 tmps).run Tryz.prog w = .ok (.tuple #[.agg cs.toArray, .int .i64 n]) w := by
  have r1 : w.rangeAt g 0 cs := Bk.range (pre := []) (post := []) (by simpa using h) rfl
  have l1 := run_loadVar_mid (P := Tryz.prog) w g 0 25 cs _ r1 Tryz.underlying25 rfl hl
  rw [Array.getD_eq_getD_getElem?] at h2 h3
  simp [results, Tryz.results29, h2, h3, asAddr, l1]
set_option maxRecDepth 20000 in
set_option maxHeartbeats 16000000 in
theorem rbDecode_any (w : World) (A : Option Addr) (n c : Nat) (bs : List Int) (ho : ByOk bs) (hs : Sl w w.heap.size 1 A n (bs.map (.int .u8))) (hn : n ≤ 1073741824) (hc : n ≤ c) :
    Calls Tryz.prog 29 #[.slice A n c] w (RetBd 74 (bkRd bs) w) := by
  obtain ⟨z, hz⟩ : ∃ z, w.heap.size = z := ⟨_, rfl⟩
  obtain ⟨w1, hw1⟩ : ∃ w1, w.alloc (.cells #[.int .u8 0, .int .u8 0, .int .u8 0, .int .u8 0, .int .u8 0, .int .u8 0, .int .u8 0, .int .u8 0, .int .i64 0, .int .u8 0, .int .u8 0, .int .u8 0, .int .u8 0, .int .u8 0, .int .u8 0, .int .u8 0, .int .u8 0, .slice none 0 0] 25) = w1 := ⟨_, rfl⟩
  have hb1 : Below w.heap.size w w1 := hw1 ▸ below_new w _
  have kz : Bk w1 z 25 zBk := hw1 ▸ Bk.at_ w _ #[.int .u8 0, .int .u8 0, .int .u8 0, .int .u8 0, .int .u8 0, .int .u8 0, .int .u8 0, .int .u8 0, .int .i64 0, .int .u8 0, .int .u8 0, .int .u8 0, .int .u8 0, .int .u8 0, .int .u8 0, .int .u8 0, .int .u8 0, .slice none 0 0] hz rfl
  have HW := Lib.hid hw1; have HBB1 := Lib.hid hb1; have HZ1 := Lib.hid kz; have HZ := Lib.hid hz
  have hr0 : RvAt w1 w1.heap.size (.agg (rvl A n c 0 0).toArray) ⟨bs, 0⟩ := RvAt.new (hs.later hb1) ho hn hc
  obtain ⟨s0, hs0⟩ : ∃ s : Rd, (⟨bs, 0⟩ : Rd) = s := ⟨_, rfl⟩
  rw [hs0] at hr0
  have HS0 := Lib.hid hs0; have HRV := Lib.hid hr0
  obtain ⟨D, hD⟩ : ∃ D, bkRd bs = D := ⟨_, rfl⟩
  have HDD := Lib.hid hD
  rw [hD]
  have hbr := build_rvl A n c
  clear hw1 hb1 kz hz hs ho hD hr0 hs0 hn hc
  go_enter Tryz.func29, Tryz.ntmps29
  go_upto_region 1 with fail
  rw [HW.out, HZ.out]
  go_wp2_with (first
    | ((with_reducible refine wpList_build rfl 114 _ rfl #[(0, .slice A n c)] ?_ _ (hbr _) ?_); focus (simp [Act.eval, Act.put]; done))
    | (with_reducible refine stop_store 114 _ _ rfl ?_))
  clear hbr
  refine StopD.go ?_
  obtain ⟨g, hg⟩ : ∃ g, w1.heap.size = g := ⟨_, rfl⟩
  have hbn : Below w1.heap.size w1 (w1.alloc (.cells #[.slice none 0 0, .int .i64 0, .int .i64 0] 114)) := below_new w1 _
  have kt : Bk (w1.alloc (.cells #[.slice none 0 0, .int .i64 0, .int .i64 0] 114)) g 114 ([] ++ (rvl none 0 0 0 0 ++ [])) := by rw [← hg]; exact Bk.new' w1 _ #[.slice none 0 0, .int .i64 0, .int .i64 0] rfl
  rw [hg]
  refine wpList_store_part rfl 114 _ _ rfl g 0 (.agg (rvl A n c 0 0).toArray) (rvl A n c 0 0) rfl rfl rfl 114 [] (rvl none 0 0 0 0) [] kt rfl rfl (rvl_size _ _ _ _ _) (rvl_one _ _ _ _ _) ?_
  intro w2 hp
  have hbn : Below w1.heap.size w1 w2 := hbn.grown hp.only hbn.size (fun q hq => by injection hq with hq; omega)
  have hlk : Bk w2 g 114 (rvl A n c 0 0) := by have := hp.bk; simpa using this
  have hzl := HZ1.out.lt
  have HD2 : Hid (RgS 25 w w2 z g w1.heap.size s0 zBk (rvl A n c 0 0)) := ⟨HRV.out.below hbn, hlk, ⟨A, n, c, 0, by rw [← HS0.out]; rfl⟩, HZ1.out.later hbn, below_then HBB1.out hbn, Nat.le_of_eq HZ.out, by omega, by omega⟩
  clear hp kt hbn hlk hzl hg HZ1
  obtain ⟨vl2, hvl⟩ : ∃ x, rvl A n c 0 0 = x := ⟨_, rfl⟩
  rw [hvl] at HD2 ⊢
  clear hvl
  go_wp2_with (with_reducible refine wpList_load_bk rfl 114 _ rfl g rfl vl2 114 HD2.out.lk _ Tryz.underlying114 rfl HD2.out.sz ?_)
  obtain ⟨⟨s4, v4⟩, hR⟩ : ∃ R, numR s0 18446744073709551615 = R := ⟨_, rfl⟩
  have HR4 := Lib.hid hR
  have hn := rRead_any w2 w1.heap.size HD2.out.lt _ s0 HD2.out.rv 18446744073709551615
  have hrg := numR_rngE (s := s0) (m := 18446744073709551615) HD2.out.rv.ok (by decide)
  rw [hR] at hn hrg
  have HN := Lib.hid hn
  have HV4 : Hid (0 ≤ v4 ∧ v4 ≤ 18446744073709551615) := ⟨hrg.1, hrg.2.1⟩
  clear hn hrg hR
  refine HN.out.mono ?_
  rintro e wx ⟨v, rfl, hr, hbn⟩
  obtain ⟨A4, n4, c4, k4, rfl, _⟩ := hr.form2
  have HDx := Lib.hid (HD2.out.later hbn)
  have HRx := Lib.hid hr
  skip
  clear hr hbn HN HD2
  go_wp2_with (with_reducible refine stop_store 114 _ _ rfl ?_)
  refine StopD.go ?_
  refine wpList_store_part rfl 114 _ _ rfl g 0 (.agg (rvl A4 n4 c4 k4 s4.err).toArray) (rvl A4 n4 c4 k4 s4.err) rfl rfl rfl 114 [] vl2 [] (by simpa using HDx.out.lk) rfl (by rw [HDx.out.l3]; rfl) (rvl_size _ _ _ _ _) (rvl_one _ _ _ _ _) ?_
  intro w4 hp
  have HD4 := Lib.hid (HDx.out.put HRx.out ⟨A4, n4, c4, k4, rfl⟩ hp.only (by have := hp.bk; simpa using this))
  skip
  clear hp HDx HRx
  obtain ⟨vl4, hvl⟩ : ∃ x, rvl A4 n4 c4 k4 s4.err = x := ⟨_, rfl⟩
  rw [hvl] at HD4 ⊢
  clear hvl
  go_wp2_with (with_reducible refine wpList_load_bk rfl 114 _ rfl g rfl vl4 114 HD4.out.lk _ Tryz.underlying114 rfl HD4.out.sz ?_)
  obtain ⟨⟨s6, v6⟩, hR⟩ : ∃ R, numR s4 1099511627776 = R := ⟨_, rfl⟩
  have HR6 := Lib.hid hR
  have hn := rRead_any w4 w1.heap.size HD4.out.lt _ s4 HD4.out.rv 1099511627776
  have hrg := numR_rngE (s := s4) (m := 1099511627776) HD4.out.rv.ok (by decide)
  rw [hR] at hn hrg
  have HN := Lib.hid hn
  have HV6 : Hid (0 ≤ v6 ∧ v6 ≤ 1099511627776) := ⟨hrg.1, hrg.2.1⟩
  clear hn hrg hR
  refine HN.out.mono ?_
  rintro e wx ⟨v, rfl, hr, hbn⟩
  obtain ⟨A6, n6, c6, k6, rfl, _⟩ := hr.form2
  have HDx := Lib.hid (HD4.out.later hbn)
  have HRx := Lib.hid hr
  skip
  clear hr hbn HN HD4
  go_wp2_with (with_reducible refine stop_store 114 _ _ rfl ?_)
  refine StopD.go ?_
  refine wpList_store_part rfl 114 _ _ rfl g 0 (.agg (rvl A6 n6 c6 k6 s6.err).toArray) (rvl A6 n6 c6 k6 s6.err) rfl rfl rfl 114 [] vl4 [] (by simpa using HDx.out.lk) rfl (by rw [HDx.out.l3]; rfl) (rvl_size _ _ _ _ _) (rvl_one _ _ _ _ _) ?_
  intro w6 hp
  have HD6 := Lib.hid (HDx.out.put HRx.out ⟨A6, n6, c6, k6, rfl⟩ hp.only (by have := hp.bk; simpa using this))
  skip
  clear hp HDx HRx
  obtain ⟨vl6, hvl⟩ : ∃ x, rvl A6 n6 c6 k6 s6.err = x := ⟨_, rfl⟩
  rw [hvl] at HD6 ⊢
  clear hvl
  go_wp2_with (with_reducible refine wpList_load_bk rfl 114 _ rfl g rfl vl6 114 HD6.out.lk _ Tryz.underlying114 rfl HD6.out.sz ?_)
  obtain ⟨⟨s8, v8⟩, hR⟩ : ∃ R, numR s6 18446744073709551615 = R := ⟨_, rfl⟩
  have HR8 := Lib.hid hR
  have hn := rRead_any w6 w1.heap.size HD6.out.lt _ s6 HD6.out.rv 18446744073709551615
  have hrg := numR_rngE (s := s6) (m := 18446744073709551615) HD6.out.rv.ok (by decide)
  rw [hR] at hn hrg
  have HN := Lib.hid hn
  have HV8 : Hid (0 ≤ v8 ∧ v8 ≤ 18446744073709551615) := ⟨hrg.1, hrg.2.1⟩
  clear hn hrg hR
  refine HN.out.mono ?_
  rintro e wx ⟨v, rfl, hr, hbn⟩
  obtain ⟨A8, n8, c8, k8, rfl, _⟩ := hr.form2
  have HDx := Lib.hid (HD6.out.later hbn)
  have HRx := Lib.hid hr
  skip
  clear hr hbn HN HD6
  go_wp2_with (with_reducible refine stop_store 114 _ _ rfl ?_)
  refine StopD.go ?_
  refine wpList_store_part rfl 114 _ _ rfl g 0 (.agg (rvl A8 n8 c8 k8 s8.err).toArray) (rvl A8 n8 c8 k8 s8.err) rfl rfl rfl 114 [] vl6 [] (by simpa using HDx.out.lk) rfl (by rw [HDx.out.l3]; rfl) (rvl_size _ _ _ _ _) (rvl_one _ _ _ _ _) ?_
  intro w8 hp
  have HD8 := Lib.hid (HDx.out.put HRx.out ⟨A8, n8, c8, k8, rfl⟩ hp.only (by have := hp.bk; simpa using this))
  skip
  clear hp HDx HRx
  obtain ⟨vl8, hvl⟩ : ∃ x, rvl A8 n8 c8 k8 s8.err = x := ⟨_, rfl⟩
  rw [hvl] at HD8 ⊢
  clear hvl
  go_wp2_with (with_reducible refine wpList_load_bk rfl 114 _ rfl g rfl vl8 114 HD8.out.lk _ Tryz.underlying114 rfl HD8.out.sz ?_)
  obtain ⟨⟨s10, v10⟩, hR⟩ : ∃ R, numR s8 64 = R := ⟨_, rfl⟩
  have HR10 := Lib.hid hR
  have hn := rRead_any w8 w1.heap.size HD8.out.lt _ s8 HD8.out.rv 64
  have hrg := numR_rngE (s := s8) (m := 64) HD8.out.rv.ok (by decide)
  rw [hR] at hn hrg
  have HN := Lib.hid hn
  have HV10 : Hid (0 ≤ v10 ∧ v10 ≤ 64) := ⟨hrg.1, hrg.2.1⟩
  clear hn hrg hR
  refine HN.out.mono ?_
  rintro e wx ⟨v, rfl, hr, hbn⟩
  obtain ⟨A10, n10, c10, k10, rfl, _⟩ := hr.form2
  have HDx := Lib.hid (HD8.out.later hbn)
  have HRx := Lib.hid hr
  skip
  clear hr hbn HN HD8
  go_wp2_with (with_reducible refine stop_store 114 _ _ rfl ?_)
  refine StopD.go ?_
  refine wpList_store_part rfl 114 _ _ rfl g 0 (.agg (rvl A10 n10 c10 k10 s10.err).toArray) (rvl A10 n10 c10 k10 s10.err) rfl rfl rfl 114 [] vl8 [] (by simpa using HDx.out.lk) rfl (by rw [HDx.out.l3]; rfl) (rvl_size _ _ _ _ _) (rvl_one _ _ _ _ _) ?_
  intro w10 hp
  have HD10 := Lib.hid (HDx.out.put HRx.out ⟨A10, n10, c10, k10, rfl⟩ hp.only (by have := hp.bk; simpa using this))
  skip
  clear hp HDx HRx
  obtain ⟨vl10, hvl⟩ : ∃ x, rvl A10 n10 c10 k10 s10.err = x := ⟨_, rfl⟩
  rw [hvl] at HD10 ⊢
  clear hvl
  obtain ⟨d4, hd⟩ : ∃ d, fromG v4 = d := ⟨_, rfl⟩
  obtain ⟨d8, hd'⟩ : ∃ d, fromG v8 = d := ⟨_, rfl⟩
  have hn := fun w' => rfrom_anyb v4 HV4.out.1 HV4.out.2 w'
  have hn' := fun w' => rfrom_anyb v8 HV8.out.1 HV8.out.2 w'
  have hdo := fromG_ok v4
  have hdo' := fromG_ok v8
  rw [hd] at hn hdo; rw [hd'] at hn' hdo'
  have HN4 := Lib.hid hn; have HN8 := Lib.hid hn'; have HDO4 := Lib.hid hdo; have HDO8 := Lib.hid hdo'
  have HDE : Hid (D = lpR d4 v6 d8 v10.toNat s10 []) := by
    show _ = _
    rw [← HDD.out, bkRd, HS0.out, HR4.out]
    show bkR2 v4 (numR s4 1099511627776) = _
    rw [HR6.out]
    show bkR3 v4 v6 (numR s6 18446744073709551615) = _
    rw [HR8.out]
    show bkR4 v4 v6 v8 (numR s8 64) = _
    rw [HR10.out, bkR4, hd, hd']
  have HST : Hid (v10 ≠ 0 → s10.err = 0) := fun h => by have := numR_stop (s := s8) (m := 64) (by rw [HR10.out]; exact h); rwa [HR10.out] at this
  obtain ⟨nn, hnn⟩ : ∃ m : Nat, v10 = m := ⟨v10.toNat, by have := HV10.out; omega⟩
  subst hnn
  rw [Int.toNat_natCast] at HDE
  have HNN : Hid (nn ≤ 64) := by have := HV10.out; show nn ≤ 64; omega
  have HW6 : Hid (IntKind.i64.wrap v6 = v6) := IntWalk.i64_in _ (by have := HV6.out; omega)
  have HW7 : Hid (wrap64 v6 = v6) := IntWalk.wrap64_in _ (by have := HV6.out; omega)
  clear hn hn' hdo hdo' hd hd' HDD HS0 HR4 HR6 HR8 HR10 HV4 HV6 HV8 HV10
  go_wp2_with fail
  refine (HN4.out w10).mono ?_
  rintro e w11 ⟨rfl, hbn⟩
  have HD11 := Lib.hid (HD10.out.later hbn)
  clear hbn HD10 HN4
  go_wp2_with fail
  refine (HN8.out w11).mono ?_
  rintro e w12 ⟨rfl, hbn⟩
  have HD12 := Lib.hid (HD11.out.later hbn)
  clear hbn HD11 HN8
  have hw6 := HW6.out
  have hw7 := HW7.out
  go_wp2_with (first
    | ((with_reducible refine wpList_build rfl 25 _ rfl #[(0, .agg (dl d4).toArray), (1, .int .i64 v6), (2, .agg (dl d8).toArray)] ?_ _ (rbuild_hd HDO4.out HDO8.out _) ?_); focus (simp [Act.eval, Act.put]; done))
    | (with_reducible refine stop_store 25 _ _ rfl ?_))
  clear hw6 hw7
  have HFB : Hid (BkFit (bkC d4 v6 d8 (.slice none 0 0))) := bk_fit HDO4.out HDO8.out
  have hgg := HD12.out.lk.lt
  refine StopD.go ?_
  obtain ⟨g13, hg13⟩ : ∃ g, w12.heap.size = g := ⟨_, rfl⟩
  have hbn : Below w12.heap.size w12 (w12.alloc (.cells #[.int .u8 0, .int .u8 0, .int .u8 0, .int .u8 0, .int .u8 0, .int .u8 0, .int .u8 0, .int .u8 0, .int .i64 0, .int .u8 0, .int .u8 0, .int .u8 0, .int .u8 0, .int .u8 0, .int .u8 0, .int .u8 0, .int .u8 0, .slice none 0 0] 25)) := below_new w12 _
  have kt : Bk (w12.alloc (.cells #[.int .u8 0, .int .u8 0, .int .u8 0, .int .u8 0, .int .u8 0, .int .u8 0, .int .u8 0, .int .u8 0, .int .i64 0, .int .u8 0, .int .u8 0, .int .u8 0, .int .u8 0, .int .u8 0, .int .u8 0, .int .u8 0, .int .u8 0, .slice none 0 0] 25)) g13 25 ([] ++ (zBk ++ [])) := by rw [← hg13]; exact Bk.new' w12 _ #[.int .u8 0, .int .u8 0, .int .u8 0, .int .u8 0, .int .u8 0, .int .u8 0, .int .u8 0, .int .u8 0, .int .i64 0, .int .u8 0, .int .u8 0, .int .u8 0, .int .u8 0, .int .u8 0, .int .u8 0, .int .u8 0, .int .u8 0, .slice none 0 0] rfl
  rw [hg13]
  refine wpList_store_part rfl 25 _ _ rfl g13 0 (.agg ((bkC d4 v6 d8 (.slice none 0 0))).toArray) ((bkC d4 v6 d8 (.slice none 0 0))) rfl rfl rfl 25 [] zBk [] kt rfl (by rw [HFB.out.len]; rfl) HFB.out.rsize HFB.out.one ?_
  intro w13 hp
  have hbn : Below w12.heap.size w12 w13 := hbn.grown hp.only hbn.size (fun q hq => by injection hq with hq; omega)
  have HL13 : Hid (Bk w13 g13 25 ((bkC d4 v6 d8 (.slice none 0 0)))) := by show Bk _ _ _ _; have := hp.bk; simpa using this
  clear hp kt
  have HGL : Hid (g < g13) := by show g < g13; omega
  have HD13 := Lib.hid (HD12.out.later hbn)
  clear hbn HD12 hg13 hgg
  obtain ⟨i0, hi, hi0, hi1, hi2⟩ := info_parts Tryz.infoRtx
  have HGW : Hid (g13 < w13.heap.size) := HL13.out.lt
  have HB13 : Hid (w.heap.size ≤ w13.heap.size) := HD13.out.hb.size
  go_wp2_with fail
  go_loopw [10, 11, 12, 13] (fun kv _ _ _ wr => ∃ (k : Nat) (s : Rd) (Lk : List TxT) (ys : List (List Value × TxT)) (v : Value) (vl : List Value), k ≤ nn ∧ kv = .int .u64 k ∧ Lk.length = k ∧ Hid (D = lpR d4 v6 d8 (nn - k) s Lk) ∧ Hid (RgS 25 w wr z g w1.heap.size s zBk vl) ∧ Hid (Bk wr g13 25 (bkC d4 v6 d8 v)) ∧ Hid (OwnY 74 w13.heap.size wr v k Lk ys) ∧ Hid (w13.heap.size ≤ wr.heap.size) ∧ Hid (k < nn → s.err = 0)) (fun kv _ _ _ _ => nn - (intOf kv).toNat)
  case atStart => exact ⟨0, s10, [], [], _, vl10, Nat.zero_le _, rfl, rfl, HDE, HD13, HL13, OwnY.nil _ _ _, Nat.le_refl _, fun h => HST.out (by omega)⟩
  case round =>
    obtain ⟨k, s, Lk, ys, v, vl, hk, rfl, hLk, HE, HDr, HLr, HJ, HWS, HER⟩ := hrel
    have hn64 := HNN.out
    by_cases hlt : k < nn
    · have hki : (k : Int) < nn := by omega
      have hk0 : (0 : Int) ≤ k := by omega
      have herr := HDr.out.err
      rw [HER.out hlt] at herr
      obtain ⟨j, hj⟩ : ∃ j, nn - k = j + 1 := ⟨nn - k - 1, by omega⟩
      have hj1 : nn - (k + 1) = j := by omega
      rw [hj] at HE
      have HJ1 := Lib.hid hj1; have HLT := Lib.hid hlt; have HLEN := Lib.hid hLk
      clear hj hj1
      as_aux_lemma =>
      go_wp2_with (with_reducible refine stop_bs2 60 _ _ rfl ?_)
      clear herr
      refine StopD.go ?_
      refine wpList_bsliceG2 rfl 60 0 _ rfl #[] ?_ 5 [] (fun w => bs8_0 w) ?_
      · simp [Act.eval, Act.put]
      intro q14 w14 hq8 hb8 hbn
      have HD14 := Lib.hid (HDr.out.later hbn); have HL14 := Lib.hid (HLr.out.later hbn); have HJ14 := Lib.hid (HJ.out.later hbn); have HW14 : Hid (w13.heap.size ≤ w14.heap.size) := Nat.le_trans HWS.out hbn.size
      clear hq8 hb8 hbn HDr HLr HJ HWS
      go_wp2_with (with_reducible refine wpList_load_bk rfl 114 _ rfl g rfl vl 114 HD14.out.lk _ Tryz.underlying114 rfl HD14.out.sz ?_)
      obtain ⟨⟨s15, b15⟩, hR⟩ : ∃ R, someR s 40000 = R := ⟨_, rfl⟩
      have HR15 := Lib.hid hR
      have hn := rSome_any w14 w1.heap.size HD14.out.lt _ s HD14.out.rv 40000 (by decide) (by decide)
      have hrg := someR_okE (s := s) HD14.out.rv.ok 40000
      have hrl := someR_len (s := s) (m := 40000) (by decide) HD14.out.rv.ok
      rw [hR] at hn hrg hrl
      have HN := Lib.hid hn
      have HV15 : Hid (ByOk b15 ∧ (b15.length : Int) ≤ 40000) := ⟨hrg.1, hrl⟩
      clear hn hrg hrl hR
      refine HN.out.mono ?_
      rintro e wx ⟨v, vb, rfl, hr, hown, hbn⟩
      obtain ⟨A15, n15, c15, k15, rfl, _⟩ := hr.form2
      obtain ⟨P15, q15, hvb⟩ := own_form hown
      subst hvb
      have HDx := Lib.hid (HD14.out.later hbn)
      have HRx := Lib.hid hr
      have HOx := Lib.hid (own_base hown HD14.out.hb.size)
      have HLx := Lib.hid (HL14.out.later hbn); have HJx := Lib.hid (HJ14.out.later hbn); have HWx : Hid (w13.heap.size ≤ wx.heap.size) := Nat.le_trans HW14.out hbn.size; clear HL14 HJ14 HW14
      clear hr hbn hown HN HD14
      go_wp2_with (with_reducible refine stop_store 114 _ _ rfl ?_)
      refine StopD.go ?_
      refine wpList_store_part rfl 114 _ _ rfl g 0 (.agg (rvl A15 n15 c15 k15 s15.err).toArray) (rvl A15 n15 c15 k15 s15.err) rfl rfl rfl 114 [] vl [] (by simpa using HDx.out.lk) rfl (by rw [HDx.out.l3]; rfl) (rvl_size _ _ _ _ _) (rvl_one _ _ _ _ _) ?_
      intro w15 hp
      have HD15 := Lib.hid (HDx.out.put HRx.out ⟨A15, n15, c15, k15, rfl⟩ hp.only (by have := hp.bk; simpa using this))
      have HO15 := Lib.hid (own_only HOx.out hp.only (own_bk_ne HOx.out HDx.out.lk (by decide)))
      have HL15 := Lib.hid (HLx.out.grown hp.only (by intro e; injection e with e; have := HGL.out; omega)); have HJ15 := Lib.hid (HJx.out.grown hp.only HDx.out.lk (by decide) (by decide)); have HW15 : Hid (w13.heap.size ≤ w15.heap.size) := Nat.le_trans HWx.out hp.only.size; clear HLx HJx HWx
      clear hp HDx HRx HOx
      obtain ⟨vl15, hvl⟩ : ∃ x, rvl A15 n15 c15 k15 s15.err = x := ⟨_, rfl⟩
      rw [hvl] at HD15 ⊢
      clear hvl
      have herr := HD15.out.err
      obtain ⟨x, hx⟩ : ∃ x, s15.err = x := ⟨_, rfl⟩
      have HX := Lib.hid hx
      rw [hx] at herr
      clear hx
      by_cases hx0 : x = 0
      · subst hx0
        obtain ⟨⟨t16, y16⟩, hT⟩ : ∃ R, txRd b15 = R := ⟨_, rfl⟩
        have HTR := Lib.hid hT
        have hd := rtxDecode_any w15 P15 b15.length q15 b15 HV15.out.1 (Sl.of_own HO15.out) (by have := HV15.out.2; omega) (own_cap HO15.out)
        rw [hT] at hd
        have HN := Lib.hid hd
        clear hd hT
        go_wp2_with fail
        clear herr
        refine HN.out.mono ?_
        rintro e w16 ⟨cs, rfl, hg16, hbn⟩
        have HD16 := Lib.hid (HD15.out.later hbn); have HL16 := Lib.hid (HL15.out.later hbn); have HJ16 := Lib.hid (HJ15.out.later hbn); have HG16 := Lib.hid (hg16.base HW15.out); have HW16 : Hid (w13.heap.size ≤ w16.heap.size) := Nat.le_trans HW15.out hbn.size
        have HGX := Lib.hid hg16.g
        clear hbn hg16 HN HD15 HL15 HJ15 HO15 HW15
        go_wp2_with (with_reducible refine stop_store 74 _ _ rfl ?_)
        refine StopD.go ?_
        obtain ⟨g17, hg17⟩ : ∃ g, w16.heap.size = g := ⟨_, rfl⟩
        have hbn : Below w16.heap.size w16 (w16.alloc (.cells #[.int .u8 0, .int .u8 0, .int .u8 0, .int .u8 0, .int .u8 0, .int .u8 0, .int .u8 0, .int .u8 0, .int .i64 0, .int .i64 0, .int .i64 0, .slice none 0 0, .slice none 0 0] 74)) := below_new w16 _
        have kt : Bk (w16.alloc (.cells #[.int .u8 0, .int .u8 0, .int .u8 0, .int .u8 0, .int .u8 0, .int .u8 0, .int .u8 0, .int .u8 0, .int .i64 0, .int .i64 0, .int .i64 0, .slice none 0 0, .slice none 0 0] 74)) g17 74 ([] ++ (zTx ++ [])) := by rw [← hg17]; exact Bk.new' w16 _ #[.int .u8 0, .int .u8 0, .int .u8 0, .int .u8 0, .int .u8 0, .int .u8 0, .int .u8 0, .int .u8 0, .int .i64 0, .int .i64 0, .int .i64 0, .slice none 0 0, .slice none 0 0] rfl
        rw [hg17]
        refine wpList_store_part rfl 74 _ _ rfl g17 0 (.agg (cs).toArray) (cs) rfl rfl rfl 74 [] zTx [] kt rfl (by rw [HGX.out.len]; rfl) HGX.out.rsize HGX.out.one ?_
        intro w17 hp
        have hbn : Below w16.heap.size w16 w17 := hbn.grown hp.only hbn.size (fun q hq => by injection hq with hq; omega)
        have HT17 : Hid (Bk w17 g17 74 (cs)) := by show Bk _ _ _ _; have := hp.bk; simpa using this
        clear hp kt hg17
        have HD17 := Lib.hid (HD16.out.later hbn); have HL17 := Lib.hid (HL16.out.later hbn); have HJ17 := Lib.hid (HJ16.out.later hbn); have HG17 := Lib.hid (HG16.out.later hbn); have HW17 : Hid (w13.heap.size ≤ w17.heap.size) := Nat.le_trans HW16.out hbn.size
        clear hbn HD16 HL16 HJ16 HG16 HW16 HGX
        by_cases hy0 : y16 = 0
        · subst hy0
          have HE2 : Hid (D = lpR d4 v6 d8 j s15 (Lk ++ [t16])) := HE.out.trans (lpR_step HR15.out HX.out HTR.out)
          have c17 := (bkc_mem HDO4.out HDO8.out HL17.out).c17
          have HSZ := Lib.hid HG17.out.g.rsize
          obtain ⟨⟨A1, B1, N1, C1, M1, D1, hcs, _⟩, hok⟩ := HG17.out
          have HTO := Lib.hid hok.f
          subst hcs
          clear hok HE
          go_wp2_with (first
            | (with_reducible refine wpList_load_bk rfl 74 _ rfl g17 rfl (txC t16 (.slice A1 N1 C1) (.slice B1 M1 D1)) 74 HT17.out _ Tryz.underlying74 rfl HSZ.out ?_)
            | (with_reducible refine stop_bs2 23 _ _ rfl ?_))
          clear c17
          refine StopD.go ?_
          refine wpList_bsliceG2 rfl 23 1 _ rfl #[(0, .agg (txC t16 (.slice A1 N1 C1) (.slice B1 M1 D1)).toArray)] ?_ 74 (txC t16 (.slice A1 N1 C1) (.slice B1 M1 D1)) (fun w => bs_rtx HTO.out A1 B1 N1 C1 M1 D1 w) ?_
          · simp [Act.eval, Act.put]
          intro q8 w18 hq8 hb8 hbn
          have HD18 := Lib.hid (HD17.out.later hbn); have HL18 := Lib.hid (HL17.out.later hbn); have HJ18 := Lib.hid (HJ17.out.later hbn); have HG18 := Lib.hid (HG17.out.later hbn); have HW18 : Hid (w13.heap.size ≤ w18.heap.size) := Nat.le_trans HW17.out hbn.size
          have HC8 := Lib.hid hb8
          clear hq8 hb8 hbn HD17 HL17 HJ17 HG17 HW17 HT17
          go_wp2_with (at_builtin; refine stop_here2 ?_)
          refine StopD.go ?_
          refine wpList_app _ rfl (.tmp 74) (.tmp 76) 23 rfl w13.heap.size 74 i0 (.agg zTx.toArray) 13 80 Tryz.underlying23 hi hi0 hi1 hi2 rfl (by decide) _ _ _ rfl HJ18.out.own _ _ _ _ _ rfl (Sl.of_own (HC8.out.own (base := 0) (size := 13) (cap := 1) (n := 1) (Nat.zero_le _) (Nat.le_refl _) (by omega) (by rw [txC_len HTO.out]) (by rw [List.take_of_length_le (by rw [txC_len HTO.out]; exact Nat.le_refl _)]))) txC_one (by unfold maxLen; omega) (by omega) HW18.out ?_
          intro v19 w19 hown hgr hat
          have HD19 := Lib.hid (HD18.out.row HJ18.out.own (by have := HGW.out; have := HGL.out; omega) hgr)
          have HL19 := Lib.hid (bk_row HL18.out HJ18.out.own HGW.out hgr)
          have HJ19 := Lib.hid (HJ18.out.app (by decide) HG18.out hown hgr)
          have HW19 : Hid (w13.heap.size ≤ w19.heap.size) := Nat.le_trans HW18.out hgr.size
          obtain ⟨A19, c19, hv19⟩ := own_form hown
          subst hv19
          clear hown hgr hat HD18 HL18 HJ18 HG18 HC8 HW18
          go_wp2_with (with_reducible refine stop_store 23 _ _ rfl ?_)
          refine StopD.go ?_
          refine wpList_store_part rfl 23 _ _ rfl g13 17 (.slice A19 (k + 1) c19) [.slice A19 (k + 1) c19] rfl rfl rfl 25 (dl d4 ++ .int .i64 v6 :: dl d8) [v] [] (by have := HL19.out; simpa [bkC] using this) (by simp [dl_len, HDO4.out.len, HDO8.out.len]) rfl (by kernel_rfl) (by intro x hx; simp at hx; subst hx; rfl) ?_
          intro w20 hp
          have HL20 : Hid (Bk w20 g13 25 (bkC d4 v6 d8 (.slice A19 (k + 1) c19))) := by show Bk _ _ _ _; have := hp.bk; simpa [bkC] using this
          have HD20 := Lib.hid (HD19.out.far hp.only HGL.out)
          have HJ20 := Lib.hid (HJ19.out.grown hp.only HL19.out (by decide) (by decide))
          have HW20 : Hid (w13.heap.size ≤ w20.heap.size) := Nat.le_trans HW19.out hp.only.size
          clear hp HD19 HL19 HJ19 HW19
          have HE3 : Hid (D = lpR d4 v6 d8 (nn - (k + 1)) s15 (Lk ++ [t16])) := by show _ = _; rw [HJ1.out]; exact HE2.out
          have hkw : IntKind.u64.wrap ((k : Int) + 1) = k + 1 := by rw [IntKind.wrap_u64]; omega
          go_wp2_with fail
          go_roundw
          case rel => exact ⟨k + 1, s15, Lk ++ [t16], _, _, vl15, HLT.out, by first | go_num | (rw [hkw]; rfl), by rw [List.length_append, HLEN.out]; rfl, HE3, HD20, HL20, HJ20, HW20, fun _ => HX.out⟩
          case measure => (try rw [hkw]); simp [intOf]; have := HLT.out; omega
        · have HDF : Hid (D = (bk0, y16)) := HE.out.trans (lpR_bad HR15.out HX.out HTR.out hy0)
          have hyn : (y16 != 0) = true := by simpa using hy0
          clear HE hy0
          have hzl := rz_blk
          go_wp2_with (first
            | ((with_reducible refine wpList_build rfl 25 _ rfl #[] ?_ _ (hzl _) ?_); focus (simp [Act.eval, Act.put]; done))
            | (with_reducible refine stop_store 25 _ _ rfl ?_))
          clear hzl
          refine StopD.go ?_
          refine wpList_store_part rfl 25 _ _ rfl z 0 (.agg zBk.toArray) zBk rfl rfl rfl 25 [] zBk [] (by simpa using HD17.out.rs) rfl rfl rzBk_size zBk_one ?_
          intro wz hp
          have HRz : Hid (Bk wz z 25 zBk) := by show Bk _ _ _ _; have := hp.bk; simpa using this
          have HBz := Lib.hid (below_only HD17.out.hb hp.only HD17.out.hb.size HD17.out.o.1)
          clear hp
          go_wp2_with fail
          refine bodyPost_ret (rbd_ret rzBk_size HRz.out _ rfl rfl) rfl ?_
          rw [HDF.out]
          exact ⟨.slice none 0 0, [], rfl, OwnY.nil _ _ _, zero_ok, zero_ok, Nat.zero_le _, HBz.out⟩
      · have HDF : Hid (D = (bk0, x)) := by show _ = _; rw [HE.out, lpR_err HR15.out (by rw [HX.out]; exact hx0), HX.out]
        have hxn : (x != 0) = true := by simpa using hx0
        have hend : endR s15 = x := by unfold endR; rw [HX.out, if_neg hx0]
        have hn := rEnd_any w15 w1.heap.size _ s15 HD15.out.rv
        rw [hend] at hn
        have HN := Lib.hid hn
        clear HE hend hn
        go_wp2_with (with_reducible refine wpList_load_bk rfl 114 _ rfl g rfl vl15 114 HD15.out.lk _ Tryz.underlying114 rfl HD15.out.sz ?_)
        clear herr
        refine HN.out.mono ?_
        rintro e w16 ⟨rfl, hbn⟩
        have HD16 := Lib.hid (HD15.out.later hbn)
        clear hbn HN HD15
        clear hx0
        have hzl := rz_blk
        go_wp2_with (first
          | ((with_reducible refine wpList_build rfl 25 _ rfl #[] ?_ _ (hzl _) ?_); focus (simp [Act.eval, Act.put]; done))
          | (with_reducible refine stop_store 25 _ _ rfl ?_))
        clear hzl
        refine StopD.go ?_
        refine wpList_store_part rfl 25 _ _ rfl z 0 (.agg zBk.toArray) zBk rfl rfl rfl 25 [] zBk [] (by simpa using HD16.out.rs) rfl rfl rzBk_size zBk_one ?_
        intro wz hp
        have HRz : Hid (Bk wz z 25 zBk) := by show Bk _ _ _ _; have := hp.bk; simpa using this
        have HBz := Lib.hid (below_only HD16.out.hb hp.only HD16.out.hb.size HD16.out.o.1)
        clear hp
        go_wp2_with fail
        refine bodyPost_ret (rbd_ret rzBk_size HRz.out _ rfl rfl) rfl ?_
        rw [HDF.out]
        exact ⟨.slice none 0 0, [], rfl, OwnY.nil _ _ _, zero_ok, zero_ok, Nat.zero_le _, HBz.out⟩
    · as_aux_lemma =>
      have hki : ¬ ((k : Int) < nn) := by omega
      obtain rfl : k = nn := by omega
      rw [Nat.sub_self, lpR_fin] at HE
      obtain ⟨A20, c20, hv⟩ := own_form HJ.out.own
      subst hv
      have HLK := Lib.hid hLk
      clear hLk hn64 hlt hk
      obtain ⟨x, hx⟩ : ∃ x, endR s = x := ⟨_, rfl⟩
      have hn := rEnd_any wr w1.heap.size _ s HDr.out.rv
      rw [hx] at hn HE
      have HN := Lib.hid hn
      clear hn hx
      go_wp2_with (with_reducible refine wpList_load_bk rfl 114 _ rfl g rfl vl 114 HDr.out.lk _ Tryz.underlying114 rfl HDr.out.sz ?_)
      refine HN.out.mono ?_
      rintro e w18 ⟨rfl, hbn⟩
      have HD18 := Lib.hid (HDr.out.later hbn); have HJ18 := Lib.hid (HJ.out.later hbn); have HL18 := Lib.hid (HLr.out.later hbn)
      clear hbn HN HDr HJ HLr
      have HSZ := Lib.hid (rblk_sz (h := v6) (s := .slice A20 k c20) HDO4.out HDO8.out)
      by_cases hx0 : x = 0
      · subst hx0
        have HE1 : Hid (D = if blkE v6 Lk ≠ 0 then (bk0, blkE v6 Lk) else (⟨d4, v6, d8, Lk⟩, 0)) := by show _ = _; rw [HE.out, bkFin, if_neg (by simp)]
        have hck := rbright_any w18 d4 v6 d8 HDO4.out HDO8.out A20 k c20 ys HJ18.out.txs
        rw [HJ18.out.map] at hck
        obtain ⟨y, hy⟩ : ∃ y, blkE v6 Lk = y := ⟨_, rfl⟩
        rw [hy] at hck HE1
        have HCK := Lib.hid hck
        clear hck hy HE
        go_wp2_with (with_reducible refine wpList_load_bk rfl 25 _ rfl g13 rfl (bkC d4 v6 d8 (.slice A20 k c20)) 25 HL18.out _ Tryz.underlying25 rfl HSZ.out ?_)
        refine HCK.out.mono ?_
        rintro e w19 ⟨rfl, hbn⟩
        have HD19 := Lib.hid (HD18.out.later hbn); have HJ19 := Lib.hid (HJ18.out.later hbn); have HL19 := Lib.hid (HL18.out.later hbn)
        clear hbn HD18 HJ18 HL18 HCK
        by_cases hy0 : y = 0
        · subst hy0
          have HDF : Hid (D = (⟨d4, v6, d8, Lk⟩, 0)) := by show _ = _; rw [HE1.out, if_neg (by simp)]
          clear HE1
          go_wp2_with (first
            | (with_reducible refine wpList_load_bk rfl 25 _ rfl g13 rfl (bkC d4 v6 d8 (.slice A20 k c20)) 25 HL19.out _ Tryz.underlying25 rfl HSZ.out ?_)
            | (with_reducible refine stop_store 25 _ _ rfl ?_))
          refine StopD.go ?_
          refine wpList_store_part rfl 25 _ _ rfl z 0 (.agg (bkC d4 v6 d8 (.slice A20 k c20)).toArray) (bkC d4 v6 d8 (.slice A20 k c20)) rfl rfl rfl 25 [] zBk [] (by simpa using HD19.out.rs) rfl (by rw [bkC_len HDO4.out HDO8.out]; rfl) HSZ.out bkC_one ?_
          intro wz hp
          have HRz : Hid (Bk wz z 25 (bkC d4 v6 d8 (.slice A20 k c20))) := by show Bk _ _ _ _; have := hp.bk; simpa using this
          have HBz := Lib.hid (below_only HD19.out.hb hp.only HD19.out.hb.size HD19.out.o.1)
          have HJz := Lib.hid ((HJ19.out.grown hp.only HD19.out.rs (by decide) (by decide)).base HB13.out)
          clear hp
          go_wp2_with fail
          refine bodyPost_ret (rbd_ret HSZ.out HRz.out _ rfl rfl) rfl ?_
          rw [HDF.out]
          exact ⟨.slice A20 k c20, ys, rfl, by show OwnY _ _ _ _ Lk.length Lk ys; rw [HLK.out]; exact HJz.out, HDO4.out, HDO8.out, by show Lk.length ≤ 64; rw [HLK.out]; exact HNN.out, HBz.out⟩
        · have HDF : Hid (D = (bk0, y)) := by show _ = _; rw [HE1.out, if_pos hy0]
          have hyn : (y != 0) = true := by simpa using hy0
          clear HE1 hy0
          have hzl := rz_blk
          go_wp2_with (first
            | ((with_reducible refine wpList_build rfl 25 _ rfl #[] ?_ _ (hzl _) ?_); focus (simp [Act.eval, Act.put]; done))
            | (with_reducible refine stop_store 25 _ _ rfl ?_))
          clear hzl
          refine StopD.go ?_
          refine wpList_store_part rfl 25 _ _ rfl z 0 (.agg zBk.toArray) zBk rfl rfl rfl 25 [] zBk [] (by simpa using HD19.out.rs) rfl rfl rzBk_size zBk_one ?_
          intro wz hp
          have HRz : Hid (Bk wz z 25 zBk) := by show Bk _ _ _ _; have := hp.bk; simpa using this
          have HBz := Lib.hid (below_only HD19.out.hb hp.only HD19.out.hb.size HD19.out.o.1)
          clear hp
          go_wp2_with fail
          refine bodyPost_ret (rbd_ret rzBk_size HRz.out _ rfl rfl) rfl ?_
          rw [HDF.out]
          exact ⟨.slice none 0 0, [], rfl, OwnY.nil _ _ _, zero_ok, zero_ok, Nat.zero_le _, HBz.out⟩
      · have HDF : Hid (D = (bk0, x)) := by show _ = _; rw [HE.out, bkFin, if_pos hx0]
        have hxn : (x != 0) = true := by simpa using hx0
        clear HE hx0
        have hzl := rz_blk
        go_wp2_with (first
          | ((with_reducible refine wpList_build rfl 25 _ rfl #[] ?_ _ (hzl _) ?_); focus (simp [Act.eval, Act.put]; done))
          | (with_reducible refine stop_store 25 _ _ rfl ?_))
        clear hzl
        refine StopD.go ?_
        refine wpList_store_part rfl 25 _ _ rfl z 0 (.agg zBk.toArray) zBk rfl rfl rfl 25 [] zBk [] (by simpa using HD18.out.rs) rfl rfl rzBk_size zBk_one ?_
        intro wz hp
        have HRz : Hid (Bk wz z 25 zBk) := by show Bk _ _ _ _; have := hp.bk; simpa using this
        have HBz := Lib.hid (below_only HD18.out.hb hp.only HD18.out.hb.size HD18.out.o.1)
        clear hp
        go_wp2_with fail
        refine bodyPost_ret (rbd_ret rzBk_size HRz.out _ rfl rfl) rfl ?_
        rw [HDF.out]
        exact ⟨.slice none 0 0, [], rfl, OwnY.nil _ _ _, zero_ok, zero_ok, Nat.zero_le _, HBz.out⟩
end Go.Proofs.YtbpmomedhdmloaaGreatDoor
