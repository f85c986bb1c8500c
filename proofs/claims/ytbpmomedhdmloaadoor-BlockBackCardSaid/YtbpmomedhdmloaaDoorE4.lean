/- How a transaction is read: the program's. -/
import Derived.Test.YtbpmomedhdmloaaDoorE2
namespace Go.Proofs.YtbpmomedhdmloaaDoor
set_option linter.unusedSimpArgs false
set_option linter.unusedVariables false
open Go.RowKit Go.Maps

theorem RdAt.bk {w : World} {g L : Nat} {s : Rd} (h : RdAt w g L s) : ∃ cs, Bk w g 112 cs := by
  obtain ⟨A, n, c, bs, k, h1, _⟩ := h
  exact ⟨_, h1⟩
/-- What stands while a value is read into a block of its own. -/
structure TdS (ty : TypeId) (w0 w : World) (z g gl : Nat) (s : Rd) (zs cs : List Value) : Prop where
  rd : RdAt w g g s
  lk : Bk w gl ty cs
  rs : Bk w z ty zs
  hb : Below w0.heap.size w0 w
  o : w0.heap.size ≤ z ∧ z < g ∧ g < gl
section
variable {ty : TypeId} {w0 w w' : World} {z g gl : Nat} {s s' : Rd} {zs cs cs' : List Value}
theorem TdS.num (h : TdS ty w0 w z g gl s zs cs) (hs : RdAt w' g g s') (hg : w.grownBy w' (some g)) : TdS ty w0 w' z g gl s' zs cs :=
  have o := h.o
  ⟨hs, h.lk.grown hg (by intro e; injection e with e; omega), h.rs.grown hg (by intro e; injection e with e; omega), below_only h.hb hg h.hb.size (by omega), h.o⟩
theorem TdS.later (h : TdS ty w0 w z g gl s zs cs) (hb : Below w.heap.size w w') : TdS ty w0 w' z g gl s zs cs := ⟨h.rd.later hb, h.lk.later hb, h.rs.later hb, below_then h.hb hb, h.o⟩
theorem TdS.put (h : TdS ty w0 w z g gl s zs cs) (hg : w.grownBy w' (some gl)) (k : Bk w' gl ty cs') : TdS ty w0 w' z g gl s zs cs' :=
  have o := h.o
  ⟨h.rd.only hg (by omega) (by omega), k, h.rs.grown hg (by intro e; injection e with e; omega), below_only h.hb hg h.hb.size (by omega), h.o⟩
theorem TdS.ownN (h : TdS ty w0 w z g gl s zs cs) {base n : Nat} {v : Value} {xs : List Value} (ho : w.ownsRow base 5 1 v n xs) (hg : w.grownBy w' (some g)) : w'.ownsRow base 5 1 v n xs := by
  obtain ⟨c, hc⟩ := h.rd.bk
  exact own_only ho hg (own_bk_ne ho hc (by decide))
theorem TdS.ownL (h : TdS ty w0 w z g gl s zs cs) (hne : 5 ≠ ty) {base n : Nat} {v : Value} {xs : List Value} (ho : w.ownsRow base 5 1 v n xs) (hg : w.grownBy w' (some gl)) : w'.ownsRow base 5 1 v n xs := own_only ho hg (own_bk_ne ho h.lk hne)
theorem TdS.ownZ (h : TdS ty w0 w z g gl s zs cs) (hne : 5 ≠ ty) {base n : Nat} {v : Value} {xs : List Value} (ho : w.ownsRow base 5 1 v n xs) (hg : w.grownBy w' (some z)) : w'.ownsRow base 5 1 v n xs := own_only ho hg (own_bk_ne ho h.rs hne)
end
def RetTd (D : TxT × Int) (w : World) (e : Ending) (w' : World) : Prop := ∃ cs, e = .returned (.tuple #[.agg cs.toArray, .int .i64 D.2]) ∧ TxgO w.heap.size w' cs D.1 ∧ Below w.heap.size w w'
theorem t0_own (lo : Nat) (w : World) : TxgO lo w zTx t0T := ⟨⟨none, none, 0, 0, 0, 0, rfl, World.ownsRow_nil _ _ _ _, World.ownsRow_nil _ _ _ _⟩, t0T_ok⟩
theorem z_tx (w : World) : (Instr.build 47 #[]).run Tryd.prog w = .ok (.agg zTx.toArray) w := by kernel_rfl
theorem zTx_one : ∀ x ∈ zTx, x.oneCell' = true := by decide
theorem zTx_size : (Tryd.prog.info? 47).map (·.size) = some zTx.length := by show _ = some 13; kernel_rfl
theorem td_ret {w : World} {g : Nat} {cs : List Value} {n : Int} (hl : cs.length = 13) (h : Bk w g 47 cs) (tmps : Array Value) (h2 : tmps.getD 2 undef = .pointer (some ⟨g, 0, none⟩)) (h3 : tmps.getD 3 undef = .int .i64 n) :
    (results Tryd.f54 tmps).run Tryd.prog w = .ok (.tuple #[.agg cs.toArray, .int .i64 n]) w := by
  have r1 : w.rangeAt g 0 cs := Bk.range (pre := []) (post := []) (by simpa using h) rfl
  have l1 := run_loadVar_mid (P := Tryd.prog) w g 0 47 cs _ r1 Tryd.underlying47 rfl (by rw [hl]; exact tx_size)
  rw [Array.getD_eq_getD_getElem?] at h2 h3
  simp [results, Tryd.results54, h2, h3, asAddr, l1]
theorem fromNum_anyb (n : Int) (w : World) : Calls Tryd.prog 50 #[.int .u64 n] w fun e w' => e = .returned (.agg (dl (fromG n)).toArray) ∧ Below w.heap.size w w' := from_any n w
set_option maxRecDepth 20000 in
set_option maxHeartbeats 8000000 in
theorem txDecode_any (w : World) (A : Option Addr) (n c : Nat) (bs : List Int) (ho : ByOk bs) (hs : Sl w w.heap.size 1 A n (bs.map (.int .u8))) (hn : n ≤ 1073741824) :
    Calls Tryd.prog 54 #[.slice A n c] w (RetTd (txRd bs) w) := by
  obtain ⟨z, hz⟩ : ∃ z, w.heap.size = z := ⟨_, rfl⟩
  obtain ⟨w1, hw1⟩ : ∃ w1, w.alloc (.cells #[.int .u8 0, .int .u8 0, .int .u8 0, .int .u8 0, .int .u8 0, .int .u8 0, .int .u8 0, .int .u8 0, .int .i64 0, .int .i64 0, .int .i64 0, .slice none 0 0, .slice none 0 0] 47) = w1 := ⟨_, rfl⟩
  have hb1 : Below w.heap.size w w1 := hw1 ▸ below_new w _
  have kz : Bk w1 z 47 zTx := hw1 ▸ Bk.at_ w _ #[.int .u8 0, .int .u8 0, .int .u8 0, .int .u8 0, .int .u8 0, .int .u8 0, .int .u8 0, .int .u8 0, .int .i64 0, .int .i64 0, .int .i64 0, .slice none 0 0, .slice none 0 0] hz rfl
  have HW := Lib.hid hw1; have HBB1 := Lib.hid hb1; have HZ1 := Lib.hid kz; have HZ := Lib.hid hz
  have HNR := Lib.hid (newReader_any w1 A n c bs ho (hs.later hb1) hn)
  have HBO := Lib.hid ho
  obtain ⟨D, hD⟩ : ∃ D, txRd bs = D := ⟨_, rfl⟩
  have HDD := Lib.hid hD
  rw [hD]
  clear hw1 hb1 kz hz hs ho hD
  go_enter Tryd.func54, Tryd.ntmps54
  go_upto_region 1 with fail
  rw [HW.out, HZ.out]
  go_wp2_with fail
  refine HNR.out.mono ?_
  rintro e w2 ⟨⟨g, rfl, hgz, hr⟩, hbn⟩
  have HR2 := Lib.hid hr
  have HGZ : Hid (z < g) := by have := HZ1.out.lt; show z < g; omega
  have HBB2 := Lib.hid (below_then HBB1.out hbn)
  have HZ2 := Lib.hid (HZ1.out.later hbn)
  clear hbn
  clear hgz hr HNR HZ1
  obtain ⟨s0, hs0⟩ : ∃ s : Rd, (⟨bs, 0⟩ : Rd) = s := ⟨_, rfl⟩
  rw [hs0] at HR2
  have HS0 := Lib.hid hs0
  clear hs0
  have hbn : Below w2.heap.size w2 (w2.alloc (.cells #[.int .u8 0, .int .u8 0, .int .u8 0, .int .u8 0, .int .u8 0, .int .u8 0, .int .u8 0, .int .u8 0, .int .i64 0, .int .i64 0, .int .i64 0, .slice none 0 0, .slice none 0 0] 47)) := below_new w2 _
  obtain ⟨gl, hgl⟩ : ∃ q, w2.heap.size = q := ⟨_, rfl⟩
  have hlk : Bk (w2.alloc (.cells #[.int .u8 0, .int .u8 0, .int .u8 0, .int .u8 0, .int .u8 0, .int .u8 0, .int .u8 0, .int .u8 0, .int .i64 0, .int .i64 0, .int .i64 0, .slice none 0 0, .slice none 0 0] 47)) gl 47 (txC ⟨zeroD, 0, 0, 0, [], []⟩ (.slice none 0 0) (.slice none 0 0)) := Bk.at_ w2 _ #[.int .u8 0, .int .u8 0, .int .u8 0, .int .u8 0, .int .u8 0, .int .u8 0, .int .u8 0, .int .u8 0, .int .i64 0, .int .i64 0, .int .i64 0, .slice none 0 0, .slice none 0 0] hgl rfl
  have HGL := Lib.hid hgl
  have hgg := HR2.out.lt
  obtain ⟨w3, hw3⟩ : ∃ x, w2.alloc (.cells #[.int .u8 0, .int .u8 0, .int .u8 0, .int .u8 0, .int .u8 0, .int .u8 0, .int .u8 0, .int .u8 0, .int .i64 0, .int .i64 0, .int .i64 0, .slice none 0 0, .slice none 0 0] 47) = x := ⟨_, rfl⟩
  have HW3 := Lib.hid hw3
  rw [hw3] at hbn hlk
  have HD3 : Hid (TdS 47 w w3 z g gl s0 zTx (txC ⟨zeroD, 0, 0, 0, [], []⟩ (.slice none 0 0) (.slice none 0 0))) := ⟨HR2.out.later hbn, hlk, HZ2.out.later hbn, below_then HBB2.out hbn, Nat.le_of_eq HZ.out, HGZ.out, by omega⟩
  clear hbn hlk hgg hgl hw3 HR2 HZ2
  go_upto_region 3 with fail
  rw [HW3.out, HGL.out]
  go_wp2_with fail
  obtain ⟨⟨s4, v4⟩, hR⟩ : ∃ R, numR s0 2 = R := ⟨_, rfl⟩
  have HR4 := Lib.hid hR
  have hn := rdNum_any w3 g s0 HD3.out.rd 2
  have hrg := numR_rngE (s := s0) (m := 2) HD3.out.rd.ok (by decide)
  rw [hR] at hn hrg
  have HN := Lib.hid hn
  have HV4 : Hid (0 ≤ v4 ∧ v4 ≤ 2) := ⟨hrg.1, hrg.2.1⟩
  clear hn hrg hR
  refine HN.out.mono ?_
  rintro e w4 ⟨rfl, hs, hg⟩
  have HD4 := Lib.hid (HD3.out.num hs hg)
  clear hs hg HN HD3
  have hcw : IntKind.i64.wrap v4 = v4 := IntWalk.i64_in _ (by have := HV4.out; omega)
  go_wp2_with (with_reducible refine stop_store 3 _ _ rfl ?_)
  clear hcw
  refine StopD.go ?_
  refine wpList_store_part rfl 3 _ _ rfl gl 10 (.int .i64 v4) [.int .i64 v4] rfl rfl rfl 47 (dl zeroD ++ [.int .i64 0, .int .i64 0]) [.int .i64 0] ([.slice none 0 0, .slice none 0 0]) (by have := HD4.out.lk; simpa [txC, bkC] using this) (by simp [dl_len, zero_ok.len]) rfl (by kernel_rfl) (by intro x hx; simp at hx; subst hx; rfl) ?_
  intro w5 hp
  have HD5 := Lib.hid (HD4.out.put (cs' := txC ⟨zeroD, 0, 0, v4, [], []⟩ (.slice none 0 0) (.slice none 0 0)) hp.only (by have := hp.bk; simpa [txC, bkC] using this))
  clear hp HD4
  go_wp2_with fail
  obtain ⟨⟨s6, v6⟩, hR⟩ : ∃ R, numR s4 18446744073709551615 = R := ⟨_, rfl⟩
  have HR6 := Lib.hid hR
  have hn := rdNum_any w5 g s4 HD5.out.rd 18446744073709551615
  have hrg := numR_rngE (s := s4) (m := 18446744073709551615) HD5.out.rd.ok (by decide)
  rw [hR] at hn hrg
  have HN := Lib.hid hn
  have HV6 : Hid (0 ≤ v6 ∧ v6 ≤ 18446744073709551615) := ⟨hrg.1, hrg.2.1⟩
  clear hn hrg hR
  refine HN.out.mono ?_
  rintro e w6 ⟨rfl, hs, hg⟩
  have HD6 := Lib.hid (HD5.out.num hs hg)
  clear hs hg HN HD5
  obtain ⟨d6, hd⟩ : ∃ d, fromG v6 = d := ⟨_, rfl⟩
  have hn := fromNum_anyb v6 w6
  have hdo := fromG_ok v6
  rw [hd] at hn hdo
  have HN := Lib.hid hn; have HDEd6 := Lib.hid hd; have HDOd6 := Lib.hid hdo
  clear hn hd hdo
  go_wp2_with fail
  refine HN.out.mono ?_
  rintro e wy ⟨rfl, hbn⟩
  have HDy := Lib.hid (HD6.out.later hbn)
  clear hbn HN HD6
  go_wp2_with (with_reducible refine stop_store 28 _ _ rfl ?_)
  refine StopD.go ?_
  refine wpList_store_part rfl 28 _ _ rfl gl 0 (.agg (dl d6).toArray) (dl d6) rfl rfl rfl 47 ([]) (dl zeroD) ([.int .i64 0, .int .i64 0, .int .i64 v4, .slice none 0 0, .slice none 0 0]) (by have := HDy.out.lk; simpa [txC, bkC] using this) (by simp [dl_len, zero_ok.len]) (by rw [dl_len, dl_len, HDOd6.out.len]; rfl) (hdg_size _ HDOd6.out) (dl_one' _) ?_
  intro w7 hp
  have HD7 := Lib.hid (HDy.out.put (cs' := txC ⟨d6, 0, 0, v4, [], []⟩ (.slice none 0 0) (.slice none 0 0)) hp.only (by have := hp.bk; simpa [txC, bkC] using this))
  clear hp HDy
  go_wp2_with fail
  obtain ⟨⟨s8, v8⟩, hR⟩ : ∃ R, numR s6 1099511627776 = R := ⟨_, rfl⟩
  have HR8 := Lib.hid hR
  have hn := rdNum_any w7 g s6 HD7.out.rd 1099511627776
  have hrg := numR_rngE (s := s6) (m := 1099511627776) HD7.out.rd.ok (by decide)
  rw [hR] at hn hrg
  have HN := Lib.hid hn
  have HV8 : Hid (0 ≤ v8 ∧ v8 ≤ 1099511627776) := ⟨hrg.1, hrg.2.1⟩
  clear hn hrg hR
  refine HN.out.mono ?_
  rintro e w8 ⟨rfl, hs, hg⟩
  have HD8 := Lib.hid (HD7.out.num hs hg)
  clear hs hg HN HD7
  have hcw : IntKind.i64.wrap v8 = v8 := IntWalk.i64_in _ (by have := HV8.out; omega)
  go_wp2_with (with_reducible refine stop_store 3 _ _ rfl ?_)
  clear hcw
  refine StopD.go ?_
  refine wpList_store_part rfl 3 _ _ rfl gl 8 (.int .i64 v8) [.int .i64 v8] rfl rfl rfl 47 (dl d6) [.int .i64 0] ([.int .i64 0, .int .i64 v4, .slice none 0 0, .slice none 0 0]) (by have := HD8.out.lk; simpa [txC, bkC] using this) (by simp [dl_len, HDOd6.out.len]) rfl (by kernel_rfl) (by intro x hx; simp at hx; subst hx; rfl) ?_
  intro w9 hp
  have HD9 := Lib.hid (HD8.out.put (cs' := txC ⟨d6, v8, 0, v4, [], []⟩ (.slice none 0 0) (.slice none 0 0)) hp.only (by have := hp.bk; simpa [txC, bkC] using this))
  clear hp HD8
  go_wp2_with fail
  obtain ⟨⟨s10, v10⟩, hR⟩ : ∃ R, numR s8 1125899906842624 = R := ⟨_, rfl⟩
  have HR10 := Lib.hid hR
  have hn := rdNum_any w9 g s8 HD9.out.rd 1125899906842624
  have hrg := numR_rngE (s := s8) (m := 1125899906842624) HD9.out.rd.ok (by decide)
  rw [hR] at hn hrg
  have HN := Lib.hid hn
  have HV10 : Hid (0 ≤ v10 ∧ v10 ≤ 1125899906842624) := ⟨hrg.1, hrg.2.1⟩
  clear hn hrg hR
  refine HN.out.mono ?_
  rintro e w10 ⟨rfl, hs, hg⟩
  have HD10 := Lib.hid (HD9.out.num hs hg)
  clear hs hg HN HD9
  have hcw : IntKind.i64.wrap v10 = v10 := IntWalk.i64_in _ (by have := HV10.out; omega)
  go_wp2_with (with_reducible refine stop_store 3 _ _ rfl ?_)
  clear hcw
  refine StopD.go ?_
  refine wpList_store_part rfl 3 _ _ rfl gl 9 (.int .i64 v10) [.int .i64 v10] rfl rfl rfl 47 (dl d6 ++ [.int .i64 v8]) [.int .i64 0] ([.int .i64 v4, .slice none 0 0, .slice none 0 0]) (by have := HD10.out.lk; simpa [txC, bkC] using this) (by simp [dl_len, HDOd6.out.len]) rfl (by kernel_rfl) (by intro x hx; simp at hx; subst hx; rfl) ?_
  intro w11 hp
  have HD11 := Lib.hid (HD10.out.put (cs' := txC ⟨d6, v8, v10, v4, [], []⟩ (.slice none 0 0) (.slice none 0 0)) hp.only (by have := hp.bk; simpa [txC, bkC] using this))
  clear hp HD10
  go_wp2_with fail
  obtain ⟨⟨s12, b12⟩, hR⟩ : ∃ R, someR s10 32768 = R := ⟨_, rfl⟩
  have HR12 := Lib.hid hR
  have hn := rdBytes_any w11 g s10 HD11.out.rd 32768 (by decide) (by decide)
  have hrg := someR_okE (s := s10) HD11.out.rd.ok 32768
  have hrl := someR_len (s := s10) (m := 32768) (by decide) HD11.out.rd.ok
  rw [hR] at hn hrg hrl
  have HN := Lib.hid hn
  have HV12 : Hid (ByOk b12 ∧ (b12.length : Int) ≤ 32768) := ⟨hrg.1, hrl⟩
  clear hn hrg hrl hR
  refine HN.out.mono ?_
  rintro e w12 ⟨v12, rfl, hown, hs, hg⟩
  obtain ⟨A12, c12, rfl⟩ := own_form hown
  have HD12 := Lib.hid (HD11.out.num hs hg)
  have HO12 := Lib.hid (own_base hown HD11.out.hb.size)
  clear hown hs hg HN HD11
  go_wp2_with (with_reducible refine stop_store 40 _ _ rfl ?_)
  refine StopD.go ?_
  refine wpList_store_part rfl 40 _ _ rfl gl 11 (.slice A12 b12.length c12) [.slice A12 b12.length c12] rfl rfl rfl 47 (dl d6 ++ [.int .i64 v8, .int .i64 v10, .int .i64 v4]) [.slice none 0 0] ([.slice none 0 0]) (by have := HD12.out.lk; simpa [txC] using this) (by simp [dl_len, HDOd6.out.len]) rfl (by kernel_rfl) (by intro x hx; simp at hx; subst hx; rfl) ?_
  intro w13 hp
  have HD13 := Lib.hid (HD12.out.put (cs' := txC ⟨d6, v8, v10, v4, [], []⟩ (.slice A12 b12.length c12) (.slice none 0 0)) hp.only (by have := hp.bk; simpa [txC] using this))
  have HO13 := Lib.hid (HD12.out.ownL (by decide) HO12.out hp.only)
  clear hp HD12 HO12
  go_wp2_with fail
  obtain ⟨⟨s14, b14⟩, hR⟩ : ∃ R, someR s12 1024 = R := ⟨_, rfl⟩
  have HR14 := Lib.hid hR
  have hn := rdBytes_any w13 g s12 HD13.out.rd 1024 (by decide) (by decide)
  have hrg := someR_okE (s := s12) HD13.out.rd.ok 1024
  have hrl := someR_len (s := s12) (m := 1024) (by decide) HD13.out.rd.ok
  rw [hR] at hn hrg hrl
  have HN := Lib.hid hn
  have HV14 : Hid (ByOk b14 ∧ (b14.length : Int) ≤ 1024) := ⟨hrg.1, hrl⟩
  clear hn hrg hrl hR
  refine HN.out.mono ?_
  rintro e w14 ⟨v14, rfl, hown, hs, hg⟩
  obtain ⟨A14, c14, rfl⟩ := own_form hown
  have HD14 := Lib.hid (HD13.out.num hs hg)
  have HO14 := Lib.hid (own_base hown HD13.out.hb.size)
  have HP14 := Lib.hid (HD13.out.ownN HO13.out hg)
  clear hown hs hg HN HD13 HO13
  go_wp2_with (with_reducible refine stop_store 40 _ _ rfl ?_)
  refine StopD.go ?_
  refine wpList_store_part rfl 40 _ _ rfl gl 12 (.slice A14 b14.length c14) [.slice A14 b14.length c14] rfl rfl rfl 47 (dl d6 ++ [.int .i64 v8, .int .i64 v10, .int .i64 v4, .slice A12 b12.length c12]) [.slice none 0 0] ([]) (by have := HD14.out.lk; simpa [txC] using this) (by simp [dl_len, HDOd6.out.len]) rfl (by kernel_rfl) (by intro x hx; simp at hx; subst hx; rfl) ?_
  intro w15 hp
  have HD15 := Lib.hid (HD14.out.put (cs' := txC ⟨d6, v8, v10, v4, [], []⟩ (.slice A12 b12.length c12) (.slice A14 b14.length c14)) hp.only (by have := hp.bk; simpa [txC] using this))
  have HO15 := Lib.hid (HD14.out.ownL (by decide) HO14.out hp.only); have HP15 := Lib.hid (HD14.out.ownL (by decide) HP14.out hp.only)
  clear hp HD14 HO14 HP14
  have HDE : Hid (D = txFin (endR s14) ⟨d6, v8, v10, v4, b12, b14⟩) := by
    show _ = _
    rw [← HDD.out, txRd, HS0.out, HR4.out]
    show txR2 v4 (numR s4 18446744073709551615) = _
    rw [HR6.out]
    show txR3 v4 v6 (numR s6 1099511627776) = _
    rw [HR8.out]
    show txR4 v4 v6 v8 (numR s8 1125899906842624) = _
    rw [HR10.out]
    show txR5 v4 v6 v8 v10 (someR s10 32768) = _
    rw [HR12.out]
    show txR6 v4 v6 v8 v10 b12 (someR s12 1024) = _
    rw [HR14.out, txR6, HDEd6.out]
  have HTO : Hid (TxOk ⟨d6, v8, v10, v4, b12, b14⟩) := ⟨HDOd6.out, HV12.out.1, HV14.out.1, by have := HV8.out; show _ ≤ v8 ∧ v8 < _; omega, by have := HV10.out; show _ ≤ v10 ∧ v10 < _; omega, by have := HV4.out; show _ ≤ v4 ∧ v4 < _; omega⟩
  clear HDD HS0 HR4 HR6 HR8 HR10 HR12 HR14 HV4 HV6 HV8 HV10 HV12 HV14
  have hg0 : TxgO w.heap.size w15 (txC ⟨d6, v8, v10, v4, [], []⟩ (.slice A12 b12.length c12) (.slice A14 b14.length c14)) ⟨d6, v8, v10, v4, b12, b14⟩ := ⟨⟨A12, A14, b12.length, c12, b14.length, c14, rfl, HP15.out, HO15.out⟩, HTO.out⟩
  obtain ⟨T, hT⟩ : ∃ T : TxT, ⟨d6, v8, v10, v4, b12, b14⟩ = T := ⟨_, rfl⟩
  obtain ⟨cs, hcs⟩ : ∃ x, txC ⟨d6, v8, v10, v4, [], []⟩ (.slice A12 b12.length c12) (.slice A14 b14.length c14) = x := ⟨_, rfl⟩
  rw [hT] at hg0 HDE
  rw [hcs] at hg0 HD15
  have HG15 := Lib.hid hg0
  clear hg0 hT hcs HO15 HP15 HTO
  go_wp2_with fail
  obtain ⟨x, hx⟩ : ∃ x, endR s14 = x := ⟨_, rfl⟩
  have hn := rdEnd_any w15 g s14 HD15.out.rd
  rw [hx] at hn HDE
  have HN := Lib.hid hn
  clear hn hx
  refine HN.out.mono ?_
  rintro e w16 ⟨rfl, q16, hq⟩
  have hbn : Below w15.heap.size w15 w16 := hq ▸ below_draws w15 _ q16
  have HD16 := Lib.hid (HD15.out.later hbn); have HG16 := Lib.hid (HG15.out.later hbn)
  clear hq hbn HN HD15 HG15
  by_cases hx0 : x = 0
  · subst hx0
    have HDE1 : Hid (D = if txE T ≠ 0 then (t0T, txE T) else (T, 0)) := by show _ = _; rw [HDE.out, txFin, if_neg (by simp)]
    have hck := txg_check HG16.out.g
    obtain ⟨y, hy⟩ : ∃ y, txE T = y := ⟨_, rfl⟩
    rw [hy] at hck HDE1
    have HCK := Lib.hid hck
    clear hck hy HDE
    go_wp2_with (with_reducible refine wpList_load_bk rfl 47 _ rfl gl rfl cs 47 HD16.out.lk _ Tryd.underlying47 rfl HG16.out.g.size ?_)
    refine HCK.out.mono ?_
    rintro e w17 ⟨rfl, hbn⟩
    have HD17 := Lib.hid (HD16.out.later hbn); have HG17 := Lib.hid (HG16.out.later hbn)
    clear hbn HD16 HG16 HCK
    by_cases hy0 : y = 0
    · subst hy0
      have HDF : Hid (D = (T, 0)) := by show _ = _; rw [HDE1.out, if_neg (by simp)]
      clear HDE1
      go_wp2_with (first
        | (with_reducible refine wpList_load_bk rfl 47 _ rfl gl rfl cs 47 HD17.out.lk _ Tryd.underlying47 rfl HG17.out.g.size ?_)
        | (with_reducible refine stop_store 47 _ _ rfl ?_))
      refine StopD.go ?_
      refine wpList_store_part rfl 47 _ _ rfl z 0 (.agg cs.toArray) cs rfl rfl rfl 47 [] zTx [] (by simpa using HD17.out.rs) rfl (by rw [HG17.out.g.len]; rfl) HG17.out.g.size HG17.out.g.one ?_
      intro wz hp
      have HRz : Hid (Bk wz z 47 cs) := by show Bk _ _ _ _; have := hp.bk; simpa using this
      have HBz := Lib.hid (below_only HD17.out.hb hp.only HD17.out.hb.size HD17.out.o.1)
      have HGz := Lib.hid (HG17.out.grown hp.only HD17.out.rs (by decide))
      clear hp
      go_wp2_with fail
      refine bodyPost_ret (td_ret HGz.out.g.len HRz.out _ rfl rfl) rfl ?_
      rw [HDF.out]
      exact ⟨cs, rfl, HGz.out, HBz.out⟩
    · have HDF : Hid (D = (t0T, y)) := by show _ = _; rw [HDE1.out, if_pos hy0]
      have hyn : (y != 0) = true := by simpa using hy0
      clear HDE1 hy0
      have hzl := z_tx
      go_wp2_with (first
        | ((with_reducible refine wpList_build rfl 47 _ rfl #[] ?_ _ (hzl _) ?_); focus (simp [Act.eval, Act.put]; done))
        | (with_reducible refine stop_store 47 _ _ rfl ?_))
      clear hzl
      refine StopD.go ?_
      refine wpList_store_part rfl 47 _ _ rfl z 0 (.agg zTx.toArray) zTx rfl rfl rfl 47 [] zTx [] (by simpa using HD17.out.rs) rfl rfl zTx_size zTx_one ?_
      intro wz hp
      have HRz : Hid (Bk wz z 47 zTx) := by show Bk _ _ _ _; have := hp.bk; simpa using this
      have HBz := Lib.hid (below_only HD17.out.hb hp.only HD17.out.hb.size HD17.out.o.1)
      clear hp
      go_wp2_with fail
      refine bodyPost_ret (td_ret rfl HRz.out _ rfl rfl) rfl ?_
      rw [HDF.out]
      exact ⟨zTx, rfl, t0_own _ _, HBz.out⟩
  · have HDF : Hid (D = (t0T, x)) := by show _ = _; rw [HDE.out, txFin, if_pos hx0]
    have hxn : (x != 0) = true := by simpa using hx0
    clear HDE hx0
    have hzl := z_tx
    go_wp2_with (first
      | ((with_reducible refine wpList_build rfl 47 _ rfl #[] ?_ _ (hzl _) ?_); focus (simp [Act.eval, Act.put]; done))
      | (with_reducible refine stop_store 47 _ _ rfl ?_))
    clear hzl
    refine StopD.go ?_
    refine wpList_store_part rfl 47 _ _ rfl z 0 (.agg zTx.toArray) zTx rfl rfl rfl 47 [] zTx [] (by simpa using HD16.out.rs) rfl rfl zTx_size zTx_one ?_
    intro wz hp
    have HRz : Hid (Bk wz z 47 zTx) := by show Bk _ _ _ _; have := hp.bk; simpa using this
    have HBz := Lib.hid (below_only HD16.out.hb hp.only HD16.out.hb.size HD16.out.o.1)
    clear hp
    go_wp2_with fail
    refine bodyPost_ret (td_ret rfl HRz.out _ rfl rfl) rfl ?_
    rw [HDF.out]
    exact ⟨zTx, rfl, t0_own _ _, HBz.out⟩
end Go.Proofs.YtbpmomedhdmloaaDoor
