/- How a transaction is read: the document's. -/
import Derived.Test.YtbpmomedhdmloaaGreatDoorD6
import Derived.Test.YtbpmomedhdmloaaGreatDoorE5
namespace Go.Proofs.YtbpmomedhdmloaaGreatDoor
set_option linter.unusedSimpArgs false
set_option linter.unusedVariables false
open Go.RowKit Go.Maps

/-- What stands while the document reads. -/
structure RgS (ty : TypeId) (w0 w : World) (z g B : Nat) (s : Rd) (zs vl : List Value) : Prop where
  rv : RvAt w B (.agg vl.toArray) s
  lk : Bk w g 114 vl
  fm : ∃ (A : Option Addr) (n c k : Nat), vl = rvl A n c k s.err
  rs : Bk w z ty zs
  hb : Below w0.heap.size w0 w
  o : w0.heap.size ≤ z ∧ z < g ∧ B ≤ g
section
variable {ty : TypeId} {w0 w w' : World} {z g B : Nat} {s s' : Rd} {zs vl vl' : List Value}
theorem RgS.lt (h : RgS ty w0 w z g B s zs vl) : B ≤ w.heap.size := Nat.le_trans h.o.2.2 (Nat.le_of_lt h.lk.lt)
theorem RgS.sz (h : RgS ty w0 w z g B s zs vl) : (Tryz.prog.info? 114).map (·.size) = some vl.length := by obtain ⟨A, n, c, k, e⟩ := h.fm; rw [e]; exact rvl_size _ _ _ _ _
theorem RgS.l3 (h : RgS ty w0 w z g B s zs vl) : vl.length = 3 := by obtain ⟨A, n, c, k, e⟩ := h.fm; rw [e]; rfl
theorem RgS.later (h : RgS ty w0 w z g B s zs vl) (hb : Below w.heap.size w w') : RgS ty w0 w' z g B s zs vl := ⟨h.rv.below (hb.mono h.lt), h.lk.later hb, h.fm, h.rs.later hb, below_then h.hb hb, h.o⟩
theorem RgS.put (h : RgS ty w0 w z g B s zs vl) (hr : RvAt w B (.agg vl'.toArray) s') (hf : ∃ (A : Option Addr) (n c k : Nat), vl' = rvl A n c k s'.err) (hg : w.grownBy w' (some g)) (k : Bk w' g 114 vl') : RgS ty w0 w' z g B s' zs vl' :=
  have o := h.o
  ⟨hr.below (below_only (Below.refl _ _) hg h.lt o.2.2), k, hf, h.rs.grown hg (by intro e; injection e with e; omega), below_only h.hb hg h.hb.size (by omega), h.o⟩
theorem RgS.err (h : RgS ty w0 w z g B s zs vl) : w.cell? ⟨g, 2, none⟩ = some (.int .i64 s.err) := by obtain ⟨A, n, c, k, e⟩ := h.fm; rw [h.lk.cell, e]; rfl
end
theorem rz_tx (w : World) : (Instr.build 74 #[]).run Tryz.prog w = .ok (.agg zTx.toArray) w := by kernel_rfl
theorem rzTx_size : (Tryz.prog.info? 74).map (·.size) = some zTx.length := by show _ = some 13; kernel_rfl
theorem rtd_ret {w : World} {g : Nat} {cs : List Value} {n : Int} (hl : (Tryz.prog.info? 74).map (·.size) = some cs.length) (h : Bk w g 74 cs) (tmps : Array Value) (h2 : tmps.getD 2 undef = .pointer (some ⟨g, 0, none⟩)) (h3 : tmps.getD 3 undef = .int .i64 n) :
    (results Tryz.f70 tmps).run Tryz.prog w = .ok (.tuple #[.agg cs.toArray, .int .i64 n]) w := by
  have r1 : w.rangeAt g 0 cs := Bk.range (pre := []) (post := []) (by simpa using h) rfl
  have l1 := run_loadVar_mid (P := Tryz.prog) w g 0 74 cs _ r1 Tryz.underlying74 rfl hl
  rw [Array.getD_eq_getD_getElem?] at h2 h3
  simp [results, Tryz.results70, h2, h3, asAddr, l1]
theorem rfrom_anyb (n : Int) (h0 : 0 ≤ n) (h1 : n ≤ 18446744073709551615) (w : World) : Calls Tryz.prog 68 #[.int .u64 n] w fun e w' => e = .returned (.agg (dl (fromG n)).toArray) ∧ Below w.heap.size w w' := rfrom_any n h0 (Lib.hid (by omega)) w
set_option maxRecDepth 20000 in
set_option maxHeartbeats 8000000 in
theorem rtxDecode_any (w : World) (A : Option Addr) (n c : Nat) (bs : List Int) (ho : ByOk bs) (hs : Sl w w.heap.size 1 A n (bs.map (.int .u8))) (hn : n ≤ 1073741824) (hc : n ≤ c) :
    Calls Tryz.prog 70 #[.slice A n c] w (RetTd (txRd bs) w) := by
  obtain ⟨z, hz⟩ : ∃ z, w.heap.size = z := ⟨_, rfl⟩
  obtain ⟨w1, hw1⟩ : ∃ w1, w.alloc (.cells #[.int .u8 0, .int .u8 0, .int .u8 0, .int .u8 0, .int .u8 0, .int .u8 0, .int .u8 0, .int .u8 0, .int .i64 0, .int .i64 0, .int .i64 0, .slice none 0 0, .slice none 0 0] 74) = w1 := ⟨_, rfl⟩
  have hb1 : Below w.heap.size w w1 := hw1 ▸ below_new w _
  have kz : Bk w1 z 74 zTx := hw1 ▸ Bk.at_ w _ #[.int .u8 0, .int .u8 0, .int .u8 0, .int .u8 0, .int .u8 0, .int .u8 0, .int .u8 0, .int .u8 0, .int .i64 0, .int .i64 0, .int .i64 0, .slice none 0 0, .slice none 0 0] hz rfl
  have HW := Lib.hid hw1; have HBB1 := Lib.hid hb1; have HZ1 := Lib.hid kz; have HZ := Lib.hid hz
  have hr0 : RvAt w1 w1.heap.size (.agg (rvl A n c 0 0).toArray) ⟨bs, 0⟩ := RvAt.new (hs.later hb1) ho hn hc
  obtain ⟨s0, hs0⟩ : ∃ s : Rd, (⟨bs, 0⟩ : Rd) = s := ⟨_, rfl⟩
  rw [hs0] at hr0
  have HS0 := Lib.hid hs0; have HRV := Lib.hid hr0
  obtain ⟨D, hD⟩ : ∃ D, txRd bs = D := ⟨_, rfl⟩
  have HDD := Lib.hid hD
  rw [hD]
  have hbr := build_rvl A n c
  clear hw1 hb1 kz hz hs ho hD hr0 hs0 hn hc
  go_enter Tryz.func70, Tryz.ntmps70
  go_upto_region 1 with fail
  rw [HW.out, HZ.out]
  go_wp2_with (first
    | ((with_reducible refine wpList_build rfl 114 _ rfl #[(0, .slice A n c)] ?_ _ (hbr _) ?_); focus (simp [Act.eval, Act.put]; done))
    | (with_reducible refine stop_store 114 _ _ rfl ?_))
  clear hbr
  refine StopD.go ?_
  obtain ⟨g, hg⟩ : ∃ g, w1.heap.size = g := ⟨_, rfl⟩
  have hbn : Below w1.heap.size w1 (w1.alloc (.cells #[.slice none 0 0, .int .i64 0, .int .i64 0] 114)) := below_new w1 _
  have kt : Bk (w1.alloc (.cells #[.slice none 0 0, .int .i64 0, .int .i64 0] 114)) g 114 ([] ++ (rvl none 0 0 0 0 ++ [])) := by rw [← hg]; exact Bk.new' w1 _ #[.slice none 0 0, .int .i64 0, .int .i64 0] rfl
  rw [hg]
  refine wpList_store_part rfl 114 _ _ rfl g 0 (.agg (rvl A n c 0 0).toArray) (rvl A n c 0 0) rfl rfl rfl 114 [] (rvl none 0 0 0 0) [] kt rfl rfl (rvl_size _ _ _ _ _) (rvl_one _ _ _ _ _) ?_
  intro w2 hp
  have hbn : Below w1.heap.size w1 w2 := hbn.grown hp.only hbn.size (fun q hq => by injection hq with hq; omega)
  have hlk : Bk w2 g 114 (rvl A n c 0 0) := by have := hp.bk; simpa using this
  have hzl := HZ1.out.lt
  have HD2 : Hid (RgS 74 w w2 z g w1.heap.size s0 zTx (rvl A n c 0 0)) := ⟨HRV.out.below hbn, hlk, ⟨A, n, c, 0, by rw [← HS0.out]; rfl⟩, HZ1.out.later hbn, below_then HBB1.out hbn, Nat.le_of_eq HZ.out, by omega, by omega⟩
  clear hp kt hbn hlk hzl hg HZ1
  obtain ⟨vl2, hvl⟩ : ∃ x, rvl A n c 0 0 = x := ⟨_, rfl⟩
  rw [hvl] at HD2 ⊢
  clear hvl
  go_wp2_with (with_reducible refine wpList_load_bk rfl 114 _ rfl g rfl vl2 114 HD2.out.lk _ Tryz.underlying114 rfl HD2.out.sz ?_)
  obtain ⟨⟨s4, v4⟩, hR⟩ : ∃ R, numR s0 2 = R := ⟨_, rfl⟩
  have HR4 := Lib.hid hR
  have hn := rRead_any w2 w1.heap.size HD2.out.lt _ s0 HD2.out.rv 2
  have hrg := numR_rngE (s := s0) (m := 2) HD2.out.rv.ok (by decide)
  rw [hR] at hn hrg
  have HN := Lib.hid hn
  have HV4 : Hid (0 ≤ v4 ∧ v4 ≤ 2) := ⟨hrg.1, hrg.2.1⟩
  clear hn hrg hR
  refine HN.out.mono ?_
  rintro e wx ⟨v, rfl, hr, hbn⟩
  obtain ⟨A4, n4, c4, k4, rfl, _⟩ := hr.form2
  have HDx := Lib.hid (HD2.out.later hbn)
  have HRx := Lib.hid hr
  skip
  clear hr hbn HN HD2
  go_wp2_with (with_reducible refine stop_store 114 _ _ rfl ?_)
  refine StopD.go ?_
  refine wpList_store_part rfl 114 _ _ rfl g 0 (.agg (rvl A4 n4 c4 k4 s4.err).toArray) (rvl A4 n4 c4 k4 s4.err) rfl rfl rfl 114 [] vl2 [] (by simpa using HDx.out.lk) rfl (by rw [HDx.out.l3]; rfl) (rvl_size _ _ _ _ _) (rvl_one _ _ _ _ _) ?_
  intro w4 hp
  have HD4 := Lib.hid (HDx.out.put HRx.out ⟨A4, n4, c4, k4, rfl⟩ hp.only (by have := hp.bk; simpa using this))
  skip
  clear hp HDx HRx
  obtain ⟨vl4, hvl⟩ : ∃ x, rvl A4 n4 c4 k4 s4.err = x := ⟨_, rfl⟩
  rw [hvl] at HD4 ⊢
  clear hvl
  go_wp2_with (with_reducible refine wpList_load_bk rfl 114 _ rfl g rfl vl4 114 HD4.out.lk _ Tryz.underlying114 rfl HD4.out.sz ?_)
  obtain ⟨⟨s6, v6⟩, hR⟩ : ∃ R, numR s4 18446744073709551615 = R := ⟨_, rfl⟩
  have HR6 := Lib.hid hR
  have hn := rRead_any w4 w1.heap.size HD4.out.lt _ s4 HD4.out.rv 18446744073709551615
  have hrg := numR_rngE (s := s4) (m := 18446744073709551615) HD4.out.rv.ok (by decide)
  rw [hR] at hn hrg
  have HN := Lib.hid hn
  have HV6 : Hid (0 ≤ v6 ∧ v6 ≤ 18446744073709551615) := ⟨hrg.1, hrg.2.1⟩
  clear hn hrg hR
  refine HN.out.mono ?_
  rintro e wx ⟨v, rfl, hr, hbn⟩
  obtain ⟨A6, n6, c6, k6, rfl, _⟩ := hr.form2
  have HDx := Lib.hid (HD4.out.later hbn)
  have HRx := Lib.hid hr
  skip
  clear hr hbn HN HD4
  go_wp2_with (with_reducible refine stop_store 114 _ _ rfl ?_)
  refine StopD.go ?_
  refine wpList_store_part rfl 114 _ _ rfl g 0 (.agg (rvl A6 n6 c6 k6 s6.err).toArray) (rvl A6 n6 c6 k6 s6.err) rfl rfl rfl 114 [] vl4 [] (by simpa using HDx.out.lk) rfl (by rw [HDx.out.l3]; rfl) (rvl_size _ _ _ _ _) (rvl_one _ _ _ _ _) ?_
  intro w6 hp
  have HD6 := Lib.hid (HDx.out.put HRx.out ⟨A6, n6, c6, k6, rfl⟩ hp.only (by have := hp.bk; simpa using this))
  skip
  clear hp HDx HRx
  obtain ⟨vl6, hvl⟩ : ∃ x, rvl A6 n6 c6 k6 s6.err = x := ⟨_, rfl⟩
  rw [hvl] at HD6 ⊢
  clear hvl
  go_wp2_with (with_reducible refine wpList_load_bk rfl 114 _ rfl g rfl vl6 114 HD6.out.lk _ Tryz.underlying114 rfl HD6.out.sz ?_)
  obtain ⟨⟨s8, v8⟩, hR⟩ : ∃ R, numR s6 1099511627776 = R := ⟨_, rfl⟩
  have HR8 := Lib.hid hR
  have hn := rRead_any w6 w1.heap.size HD6.out.lt _ s6 HD6.out.rv 1099511627776
  have hrg := numR_rngE (s := s6) (m := 1099511627776) HD6.out.rv.ok (by decide)
  rw [hR] at hn hrg
  have HN := Lib.hid hn
  have HV8 : Hid (0 ≤ v8 ∧ v8 ≤ 1099511627776) := ⟨hrg.1, hrg.2.1⟩
  clear hn hrg hR
  refine HN.out.mono ?_
  rintro e wx ⟨v, rfl, hr, hbn⟩
  obtain ⟨A8, n8, c8, k8, rfl, _⟩ := hr.form2
  have HDx := Lib.hid (HD6.out.later hbn)
  have HRx := Lib.hid hr
  skip
  clear hr hbn HN HD6
  go_wp2_with (with_reducible refine stop_store 114 _ _ rfl ?_)
  refine StopD.go ?_
  refine wpList_store_part rfl 114 _ _ rfl g 0 (.agg (rvl A8 n8 c8 k8 s8.err).toArray) (rvl A8 n8 c8 k8 s8.err) rfl rfl rfl 114 [] vl6 [] (by simpa using HDx.out.lk) rfl (by rw [HDx.out.l3]; rfl) (rvl_size _ _ _ _ _) (rvl_one _ _ _ _ _) ?_
  intro w8 hp
  have HD8 := Lib.hid (HDx.out.put HRx.out ⟨A8, n8, c8, k8, rfl⟩ hp.only (by have := hp.bk; simpa using this))
  skip
  clear hp HDx HRx
  obtain ⟨vl8, hvl⟩ : ∃ x, rvl A8 n8 c8 k8 s8.err = x := ⟨_, rfl⟩
  rw [hvl] at HD8 ⊢
  clear hvl
  go_wp2_with (with_reducible refine wpList_load_bk rfl 114 _ rfl g rfl vl8 114 HD8.out.lk _ Tryz.underlying114 rfl HD8.out.sz ?_)
  obtain ⟨⟨s10, v10⟩, hR⟩ : ∃ R, numR s8 1125899906842624 = R := ⟨_, rfl⟩
  have HR10 := Lib.hid hR
  have hn := rRead_any w8 w1.heap.size HD8.out.lt _ s8 HD8.out.rv 1125899906842624
  have hrg := numR_rngE (s := s8) (m := 1125899906842624) HD8.out.rv.ok (by decide)
  rw [hR] at hn hrg
  have HN := Lib.hid hn
  have HV10 : Hid (0 ≤ v10 ∧ v10 ≤ 1125899906842624) := ⟨hrg.1, hrg.2.1⟩
  clear hn hrg hR
  refine HN.out.mono ?_
  rintro e wx ⟨v, rfl, hr, hbn⟩
  obtain ⟨A10, n10, c10, k10, rfl, _⟩ := hr.form2
  have HDx := Lib.hid (HD8.out.later hbn)
  have HRx := Lib.hid hr
  skip
  clear hr hbn HN HD8
  go_wp2_with (with_reducible refine stop_store 114 _ _ rfl ?_)
  refine StopD.go ?_
  refine wpList_store_part rfl 114 _ _ rfl g 0 (.agg (rvl A10 n10 c10 k10 s10.err).toArray) (rvl A10 n10 c10 k10 s10.err) rfl rfl rfl 114 [] vl8 [] (by simpa using HDx.out.lk) rfl (by rw [HDx.out.l3]; rfl) (rvl_size _ _ _ _ _) (rvl_one _ _ _ _ _) ?_
  intro w10 hp
  have HD10 := Lib.hid (HDx.out.put HRx.out ⟨A10, n10, c10, k10, rfl⟩ hp.only (by have := hp.bk; simpa using this))
  skip
  clear hp HDx HRx
  obtain ⟨vl10, hvl⟩ : ∃ x, rvl A10 n10 c10 k10 s10.err = x := ⟨_, rfl⟩
  rw [hvl] at HD10 ⊢
  clear hvl
  go_wp2_with (with_reducible refine wpList_load_bk rfl 114 _ rfl g rfl vl10 114 HD10.out.lk _ Tryz.underlying114 rfl HD10.out.sz ?_)
  obtain ⟨⟨s12, b12⟩, hR⟩ : ∃ R, someR s10 32768 = R := ⟨_, rfl⟩
  have HR12 := Lib.hid hR
  have hn := rSome_any w10 w1.heap.size HD10.out.lt _ s10 HD10.out.rv 32768 (by decide) (by decide)
  have hrg := someR_okE (s := s10) HD10.out.rv.ok 32768
  have hrl := someR_len (s := s10) (m := 32768) (by decide) HD10.out.rv.ok
  rw [hR] at hn hrg hrl
  have HN := Lib.hid hn
  have HV12 : Hid (ByOk b12 ∧ (b12.length : Int) ≤ 32768) := ⟨hrg.1, hrl⟩
  clear hn hrg hrl hR
  refine HN.out.mono ?_
  rintro e wx ⟨v, vb, rfl, hr, hown, hbn⟩
  obtain ⟨A12, n12, c12, k12, rfl, _⟩ := hr.form2
  obtain ⟨P12, q12, hvb⟩ := own_form hown
  subst hvb
  have HDx := Lib.hid (HD10.out.later hbn)
  have HRx := Lib.hid hr
  have HOx := Lib.hid (own_base hown HD10.out.hb.size)
  skip
  clear hr hbn hown HN HD10
  go_wp2_with (with_reducible refine stop_store 114 _ _ rfl ?_)
  refine StopD.go ?_
  refine wpList_store_part rfl 114 _ _ rfl g 0 (.agg (rvl A12 n12 c12 k12 s12.err).toArray) (rvl A12 n12 c12 k12 s12.err) rfl rfl rfl 114 [] vl10 [] (by simpa using HDx.out.lk) rfl (by rw [HDx.out.l3]; rfl) (rvl_size _ _ _ _ _) (rvl_one _ _ _ _ _) ?_
  intro w12 hp
  have HD12 := Lib.hid (HDx.out.put HRx.out ⟨A12, n12, c12, k12, rfl⟩ hp.only (by have := hp.bk; simpa using this))
  have HO12 := Lib.hid (own_only HOx.out hp.only (own_bk_ne HOx.out HDx.out.lk (by decide)))
  skip
  clear hp HDx HRx HOx
  obtain ⟨vl12, hvl⟩ : ∃ x, rvl A12 n12 c12 k12 s12.err = x := ⟨_, rfl⟩
  rw [hvl] at HD12 ⊢
  clear hvl
  go_wp2_with (with_reducible refine wpList_load_bk rfl 114 _ rfl g rfl vl12 114 HD12.out.lk _ Tryz.underlying114 rfl HD12.out.sz ?_)
  obtain ⟨⟨s14, b14⟩, hR⟩ : ∃ R, someR s12 1024 = R := ⟨_, rfl⟩
  have HR14 := Lib.hid hR
  have hn := rSome_any w12 w1.heap.size HD12.out.lt _ s12 HD12.out.rv 1024 (by decide) (by decide)
  have hrg := someR_okE (s := s12) HD12.out.rv.ok 1024
  have hrl := someR_len (s := s12) (m := 1024) (by decide) HD12.out.rv.ok
  rw [hR] at hn hrg hrl
  have HN := Lib.hid hn
  have HV14 : Hid (ByOk b14 ∧ (b14.length : Int) ≤ 1024) := ⟨hrg.1, hrl⟩
  clear hn hrg hrl hR
  refine HN.out.mono ?_
  rintro e wx ⟨v, vb, rfl, hr, hown, hbn⟩
  obtain ⟨A14, n14, c14, k14, rfl, _⟩ := hr.form2
  obtain ⟨P14, q14, hvb⟩ := own_form hown
  subst hvb
  have HDx := Lib.hid (HD12.out.later hbn)
  have HRx := Lib.hid hr
  have HOx := Lib.hid (own_base hown HD12.out.hb.size)
  have HPx := Lib.hid (own_keep HO12.out hbn); clear HO12
  clear hr hbn hown HN HD12
  go_wp2_with (with_reducible refine stop_store 114 _ _ rfl ?_)
  refine StopD.go ?_
  refine wpList_store_part rfl 114 _ _ rfl g 0 (.agg (rvl A14 n14 c14 k14 s14.err).toArray) (rvl A14 n14 c14 k14 s14.err) rfl rfl rfl 114 [] vl12 [] (by simpa using HDx.out.lk) rfl (by rw [HDx.out.l3]; rfl) (rvl_size _ _ _ _ _) (rvl_one _ _ _ _ _) ?_
  intro w14 hp
  have HD14 := Lib.hid (HDx.out.put HRx.out ⟨A14, n14, c14, k14, rfl⟩ hp.only (by have := hp.bk; simpa using this))
  have HO14 := Lib.hid (own_only HOx.out hp.only (own_bk_ne HOx.out HDx.out.lk (by decide)))
  have HP14 := Lib.hid (own_only HPx.out hp.only (own_bk_ne HPx.out HDx.out.lk (by decide))); clear HPx
  clear hp HDx HRx HOx
  obtain ⟨vl14, hvl⟩ : ∃ x, rvl A14 n14 c14 k14 s14.err = x := ⟨_, rfl⟩
  rw [hvl] at HD14 ⊢
  clear hvl
  obtain ⟨d6, hd⟩ : ∃ d, fromG v6 = d := ⟨_, rfl⟩
  have hn := fun w' => rfrom_anyb v6 HV6.out.1 HV6.out.2 w'
  have hdo := fromG_ok v6
  rw [hd] at hn hdo
  have HN := Lib.hid hn; have HDEd := Lib.hid hd; have HDO := Lib.hid hdo
  clear hn hd hdo
  have HDE : Hid (D = txFin (endR s14) ⟨d6, v8, v10, v4, b12, b14⟩) := by
    show _ = _
    rw [← HDD.out, txRd, HS0.out, HR4.out]
    show txR2 v4 (numR s4 18446744073709551615) = _
    rw [HR6.out]
    show txR3 v4 v6 (numR s6 1099511627776) = _
    rw [HR8.out]
    show txR4 v4 v6 v8 (numR s8 1125899906842624) = _
    rw [HR10.out]
    show txR5 v4 v6 v8 v10 (someR s10 32768) = _
    rw [HR12.out]
    show txR6 v4 v6 v8 v10 b12 (someR s12 1024) = _
    rw [HR14.out, txR6, HDEd.out]
  have hto : TxOk ⟨d6, v8, v10, v4, b12, b14⟩ := ⟨HDO.out, HV12.out.1, HV14.out.1, by have := HV8.out; show _ ≤ v8 ∧ v8 < _; omega, by have := HV10.out; show _ ≤ v10 ∧ v10 < _; omega, by have := HV4.out; show _ ≤ v4 ∧ v4 < _; omega⟩
  have HW4 : Hid (IntKind.i64.wrap v4 = v4) := IntWalk.i64_in _ (by have := HV4.out; omega)
  have HW8 : Hid (IntKind.i64.wrap v8 = v8) := IntWalk.i64_in _ (by have := HV8.out; omega)
  have HW10 : Hid (IntKind.i64.wrap v10 = v10) := IntWalk.i64_in _ (by have := HV10.out; omega)
  have hg0 : TxgO w.heap.size w14 (txC ⟨d6, v8, v10, v4, b12, b14⟩ (.slice P12 b12.length q12) (.slice P14 b14.length q14)) ⟨d6, v8, v10, v4, b12, b14⟩ := ⟨⟨P12, P14, b12.length, q12, b14.length, q14, rfl, HP14.out, HO14.out⟩, hto⟩
  have hbt := fun w' => build_rtx (t := ⟨d6, v8, v10, v4, b12, b14⟩) HDO.out P12 P14 b12.length q12 b14.length q14 w'
  obtain ⟨T, hT⟩ : ∃ T : TxT, ⟨d6, v8, v10, v4, b12, b14⟩ = T := ⟨_, rfl⟩
  obtain ⟨cs, hcs⟩ : ∃ x, txC ⟨d6, v8, v10, v4, b12, b14⟩ (.slice P12 b12.length q12) (.slice P14 b14.length q14) = x := ⟨_, rfl⟩
  rw [hcs] at hg0 hbt
  rw [hT] at hg0 HDE
  have HG14 := Lib.hid hg0; have HBT := Lib.hid hbt
  clear hg0 hbt hto hT hcs HO14 HP14 HDD HS0 HR4 HR6 HR8 HR10 HR12 HR14 HV4 HV6 HV8 HV10 HV12 HV14 HDEd
  go_wp2_with (with_reducible refine wpList_load_bk rfl 114 _ rfl g rfl vl14 114 HD14.out.lk _ Tryz.underlying114 rfl HD14.out.sz ?_)
  obtain ⟨x, hx⟩ : ∃ x, endR s14 = x := ⟨_, rfl⟩
  have hn := rEnd_any w14 w1.heap.size _ s14 HD14.out.rv
  rw [hx] at hn HDE
  have HE := Lib.hid hn
  clear hn hx
  refine HE.out.mono ?_
  rintro e w16 ⟨rfl, hbn⟩
  have HD16 := Lib.hid (HD14.out.later hbn); have HG16 := Lib.hid (HG14.out.later hbn)
  clear hbn HE HD14 HG14
  have HZ16 := Lib.hid HD16.out.rs; have HB16 := Lib.hid HD16.out.hb
  by_cases hx0 : x = 0
  · subst hx0
    have HDE1 : Hid (D = if txE T ≠ 0 then (t0T, txE T) else (T, 0)) := by show _ = _; rw [HDE.out, txFin, if_neg (by simp)]
    clear HDE
    go_wp2_with fail
    refine (HN.out w16).mono ?_
    rintro e w17 ⟨rfl, hbn⟩
    have HG17 := Lib.hid (HG16.out.later hbn); have HZ17 := Lib.hid (HZ16.out.later hbn); have HB17 := Lib.hid (below_then HB16.out hbn)
    clear hbn HD16 HG16 HZ16 HB16 HN
    have hw4 := HW4.out; have hw8 := HW8.out; have hw10 := HW10.out
    go_wp2_with (first
      | ((with_reducible refine wpList_build rfl 74 _ rfl #[(0, .agg (dl d6).toArray), (1, .int .i64 v8), (2, .int .i64 v10), (3, .int .i64 v4), (4, .slice P12 b12.length q12), (5, .slice P14 b14.length q14)] ?_ _ (HBT.out _) ?_); focus (simp [Act.eval, Act.put]; done))
      | (with_reducible refine stop_store 74 _ _ rfl ?_))
    clear hw4 hw8 hw10
    have HGX := Lib.hid HG17.out.g
    refine StopD.go ?_
    obtain ⟨g18, hg18⟩ : ∃ g, w17.heap.size = g := ⟨_, rfl⟩
    have hbn : Below w17.heap.size w17 (w17.alloc (.cells #[.int .u8 0, .int .u8 0, .int .u8 0, .int .u8 0, .int .u8 0, .int .u8 0, .int .u8 0, .int .u8 0, .int .i64 0, .int .i64 0, .int .i64 0, .slice none 0 0, .slice none 0 0] 74)) := below_new w17 _
    have kt : Bk (w17.alloc (.cells #[.int .u8 0, .int .u8 0, .int .u8 0, .int .u8 0, .int .u8 0, .int .u8 0, .int .u8 0, .int .u8 0, .int .i64 0, .int .i64 0, .int .i64 0, .slice none 0 0, .slice none 0 0] 74)) g18 74 ([] ++ (zTx ++ [])) := by rw [← hg18]; exact Bk.new' w17 _ #[.int .u8 0, .int .u8 0, .int .u8 0, .int .u8 0, .int .u8 0, .int .u8 0, .int .u8 0, .int .u8 0, .int .i64 0, .int .i64 0, .int .i64 0, .slice none 0 0, .slice none 0 0] rfl
    rw [hg18]
    refine wpList_store_part rfl 74 _ _ rfl g18 0 (.agg (cs).toArray) (cs) rfl rfl rfl 74 [] zTx [] kt rfl (by rw [HGX.out.len]; rfl) HGX.out.rsize HGX.out.one ?_
    intro w18 hp
    have hbn : Below w17.heap.size w17 w18 := hbn.grown hp.only hbn.size (fun q hq => by injection hq with hq; omega)
    have HT18 : Hid (Bk w18 g18 74 (cs)) := by show Bk _ _ _ _; have := hp.bk; simpa using this
    clear hp kt hg18
    have HG18 := Lib.hid (HG17.out.later hbn); have HZ18 := Lib.hid (HZ17.out.later hbn); have HB18 := Lib.hid (below_then HB17.out hbn)
    clear hbn HG17 HZ17 HB17 HGX
    have hck := rcheck_any w18 cs T HG18.out.g
    obtain ⟨y, hy⟩ : ∃ y, txE T = y := ⟨_, rfl⟩
    rw [hy] at hck HDE1
    have HCK := Lib.hid hck
    clear hck hy
    go_wp2_with (with_reducible refine wpList_load_bk rfl 74 _ rfl g18 rfl cs 74 HT18.out _ Tryz.underlying74 rfl HG18.out.g.rsize ?_)
    refine HCK.out.mono ?_
    rintro e w19 ⟨rfl, hbn⟩
    have HG19 := Lib.hid (HG18.out.later hbn); have HZ19 := Lib.hid (HZ18.out.later hbn); have HB19 := Lib.hid (below_then HB18.out hbn); have HT19 := Lib.hid (HT18.out.later hbn)
    clear hbn HG18 HZ18 HB18 HT18 HCK
    by_cases hy0 : y = 0
    · subst hy0
      have HDF : Hid (D = (T, 0)) := by show _ = _; rw [HDE1.out, if_neg (by simp)]
      clear HDE1
      go_wp2_with (first
        | (with_reducible refine wpList_load_bk rfl 74 _ rfl g18 rfl cs 74 HT19.out _ Tryz.underlying74 rfl HG19.out.g.rsize ?_)
        | (with_reducible refine stop_store 74 _ _ rfl ?_))
      refine StopD.go ?_
      refine wpList_store_part rfl 74 _ _ rfl z 0 (.agg cs.toArray) cs rfl rfl rfl 74 [] zTx [] (by simpa using HZ19.out) rfl (by rw [HG19.out.g.len]; rfl) HG19.out.g.rsize HG19.out.g.one ?_
      intro wz hp
      have HRz : Hid (Bk wz z 74 cs) := by show Bk _ _ _ _; have := hp.bk; simpa using this
      have HBz := Lib.hid (below_only HB19.out hp.only HB19.out.size (Nat.le_of_eq HZ.out))
      have HGz := Lib.hid (HG19.out.grown hp.only HZ19.out (by decide))
      clear hp
      go_wp2_with fail
      refine bodyPost_ret (rtd_ret HGz.out.g.rsize HRz.out _ rfl rfl) rfl ?_
      rw [HDF.out]
      exact ⟨cs, rfl, HGz.out, HBz.out⟩
    · have HDF : Hid (D = (t0T, y)) := by show _ = _; rw [HDE1.out, if_pos hy0]
      have hyn : (y != 0) = true := by simpa using hy0
      clear HDE1 hy0
      have hzl := rz_tx
      go_wp2_with (first
        | ((with_reducible refine wpList_build rfl 74 _ rfl #[] ?_ _ (hzl _) ?_); focus (simp [Act.eval, Act.put]; done))
        | (with_reducible refine stop_store 74 _ _ rfl ?_))
      clear hzl
      refine StopD.go ?_
      refine wpList_store_part rfl 74 _ _ rfl z 0 (.agg zTx.toArray) zTx rfl rfl rfl 74 [] zTx [] (by simpa using HZ19.out) rfl rfl rzTx_size zTx_one ?_
      intro wz hp
      have HRz : Hid (Bk wz z 74 zTx) := by show Bk _ _ _ _; have := hp.bk; simpa using this
      have HBz := Lib.hid (below_only HB19.out hp.only HB19.out.size (Nat.le_of_eq HZ.out))
      clear hp
      go_wp2_with fail
      refine bodyPost_ret (rtd_ret rzTx_size HRz.out _ rfl rfl) rfl ?_
      rw [HDF.out]
      exact ⟨zTx, rfl, t0_own _ _, HBz.out⟩
  · have HDF : Hid (D = (t0T, x)) := by show _ = _; rw [HDE.out, txFin, if_pos hx0]
    have hxn : (x != 0) = true := by simpa using hx0
    clear HDE hx0
    have hzl := rz_tx
    go_wp2_with (first
      | ((with_reducible refine wpList_build rfl 74 _ rfl #[] ?_ _ (hzl _) ?_); focus (simp [Act.eval, Act.put]; done))
      | (with_reducible refine stop_store 74 _ _ rfl ?_))
    clear hzl
    refine StopD.go ?_
    refine wpList_store_part rfl 74 _ _ rfl z 0 (.agg zTx.toArray) zTx rfl rfl rfl 74 [] zTx [] (by simpa using HZ16.out) rfl rfl rzTx_size zTx_one ?_
    intro wz hp
    have HRz : Hid (Bk wz z 74 zTx) := by show Bk _ _ _ _; have := hp.bk; simpa using this
    have HBz := Lib.hid (below_only HB16.out hp.only HB16.out.size (Nat.le_of_eq HZ.out))
    clear hp
    go_wp2_with fail
    refine bodyPost_ret (rtd_ret rzTx_size HRz.out _ rfl rfl) rfl ?_
    rw [HDF.out]
    exact ⟨zTx, rfl, t0_own _ _, HBz.out⟩
end Go.Proofs.YtbpmomedhdmloaaGreatDoor
