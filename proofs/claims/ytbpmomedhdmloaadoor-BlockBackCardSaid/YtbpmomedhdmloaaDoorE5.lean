/- How a block is read: the program's. -/
import Derived.Test.YtbpmomedhdmloaaDoorE4
namespace Go.Proofs.YtbpmomedhdmloaaDoor
set_option linter.unusedSimpArgs false
set_option linter.unusedVariables false
open Go.RowKit Go.Maps

/-- Transactions in a row of their own, and their bytes too. -/
structure OwnY (ty : TypeId) (lo : Nat) (w : World) (v : Value) (N : Nat) (L : List TxT) (ys : List (List Value × TxT)) : Prop where
  own : w.ownsRow lo ty 13 v N (ys.map (·.1)).flatten
  map : ys.map (·.2) = L
  all : ∀ y ∈ ys, TxgO lo w y.1 y.2
section
variable {ty : TypeId} {lo lo' N : Nat} {w w' : World} {v : Value} {L : List TxT} {ys : List (List Value × TxT)}
theorem OwnY.later (h : OwnY ty lo w v N L ys) (hb : Below w.heap.size w w') : OwnY ty lo w' v N L ys := ⟨own_keep h.own hb, h.map, fun y hy => (h.all y hy).later hb⟩
theorem OwnY.base (h : OwnY ty lo w v N L ys) (hl : lo' ≤ lo) : OwnY ty lo' w v N L ys := ⟨own_base h.own hl, h.map, fun y hy => (h.all y hy).base hl⟩
theorem OwnY.grown {g : Nat} {t : TypeId} {zs : List Value} (h : OwnY ty lo w v N L ys) (hg : w.grownBy w' (some g)) (hk : Bk w g t zs) (hne : 5 ≠ t) (hne' : ty ≠ t) : OwnY ty lo w' v N L ys := ⟨own_only h.own hg (own_bk_ne h.own hk hne'), h.map, fun y hy => (h.all y hy).grown hg hk hne⟩
theorem OwnY.txs {A : Option Addr} {c : Nat} (h : OwnY ty lo w (.slice A N c) N L ys) : Txs w A N ys := ⟨Sl.of_own h.own, fun y hy => (h.all y hy).g⟩
theorem OwnY.nil (ty : TypeId) (lo : Nat) (w : World) : OwnY ty lo w (.slice none 0 0) 0 [] [] := ⟨World.ownsRow_nil _ _ _ _, rfl, fun y hy => by cases hy⟩
theorem OwnY.app {v' : Value} {cs : List Value} {t : TxT} (hne : 5 ≠ ty) (h : OwnY ty lo w v N L ys) (hg : TxgO lo w cs t) (ho : w'.ownsRow lo ty 13 v' (N + 1) ((ys.map (·.1)).flatten ++ cs)) (hgr : w.grownBy w' v.ownBlock) : OwnY ty lo w' v' (N + 1) (L ++ [t]) (ys ++ [(cs, t)]) := by
  have hap : ∀ (cs : List Value) (t : TxT), TxgO lo w cs t → TxgO lo w' cs t := fun cs t h2 => by
    obtain ⟨⟨A, B, N, C, M, D, e, h3, h4⟩, ok⟩ := h2
    exact ⟨⟨A, B, N, C, M, D, e, own_apart2 h3 h.own hne hgr, own_apart2 h4 h.own hne hgr⟩, ok⟩
  refine ⟨?_, ?_, fun y hy => ?_⟩
  · rw [List.map_append, List.flatten_append]; simpa using ho
  · rw [List.map_append, h.map]; rfl
  · rcases List.mem_append.1 hy with hy | hy
    · exact hap _ _ (h.all y hy)
    · rw [List.mem_singleton] at hy; subst hy; exact hap _ _ hg
end
theorem TdS.row {ty e : TypeId} {w0 w w' : World} {z g gl base size n : Nat} {s : Rd} {zs cs xs : List Value} {v : Value} (h : TdS ty w0 w z g gl s zs cs) (ho : w.ownsRow base e size v n xs) (hb : gl < base) (hg : w.grownBy w' v.ownBlock) : TdS ty w0 w' z g gl s zs cs := by
  have o := h.o
  rcases own_bk ho with ⟨rfl, _⟩ | ⟨q, cap, ys, rfl, hq, _⟩
  · exact h.later (below_grow hg)
  · have hg : w.grownBy w' (some q) := hg
    exact ⟨h.rd.only hg (by omega) (by omega), h.lk.grown hg (by intro e; injection e with e; omega), h.rs.grown hg (by intro e; injection e with e; omega), below_only h.hb hg h.hb.size (by omega), h.o⟩
def RetBd (ty : TypeId) (D : BkT × Int) (w : World) (e : Ending) (w' : World) : Prop :=
  ∃ v ys, e = .returned (.tuple #[.agg (bkC D.1.p D.1.h D.1.m v).toArray, .int .i64 D.2]) ∧ OwnY ty w.heap.size w' v D.1.L.length D.1.L ys ∧ DgOk D.1.p ∧ DgOk D.1.m ∧ D.1.L.length ≤ 64 ∧ Below w.heap.size w w'
theorem z_blk (w : World) : (Instr.build 31 #[]).run Tryd.prog w = .ok (.agg zBk.toArray) w := by kernel_rfl
theorem zBk_one : ∀ x ∈ zBk, x.oneCell' = true := by decide
theorem zBk_size : (Tryd.prog.info? 31).map (·.size) = some zBk.length := by show _ = some 18; kernel_rfl
theorem bd_ret {w : World} {g : Nat} {cs : List Value} {n : Int} (hl : (Tryd.prog.info? 31).map (·.size) = some cs.length) (h : Bk w g 31 cs) (tmps : Array Value) (h2 : tmps.getD 2 undef = .pointer (some ⟨g, 0, none⟩)) (h3 : tmps.getD 3 undef = .int .i64 n) :
    (results Tryd.f29 tmps).run Tryd.prog w = .ok (.tuple #[.agg cs.toArray, .int .i64 n]) w := by
  have r1 : w.rangeAt g 0 cs := Bk.range (pre := []) (post := []) (by simpa using h) rfl
  have l1 := run_loadVar_mid (P := Tryd.prog) w g 0 31 cs _ r1 Tryd.underlying31 rfl hl
  rw [Array.getD_eq_getD_getElem?] at h2 h3
  simp [results, Tryd.results29, h2, h3, asAddr, l1]
theorem lpR_fin {p : List Int} {h : Int} {m : List Int} (s : Rd) (L : List TxT) : lpR p h m 0 s L = bkFin (endR s) ⟨p, h, m, L⟩ := rfl
theorem lpR_err {p : List Int} {h : Int} {m : List Int} {k : Nat} {s s' : Rd} {b : List Int} {L : List TxT} (hR : someR s 40000 = (s', b)) (he : s'.err ≠ 0) : lpR p h m (k + 1) s L = (bk0, s'.err) := by rw [lpR, hR, if_pos he]
theorem lpR_bad {p : List Int} {h : Int} {m : List Int} {k : Nat} {s s' : Rd} {b : List Int} {L : List TxT} (hR : someR s 40000 = (s', b)) (he : s'.err = 0) {t : TxT} {y : Int} (hD : txRd b = (t, y)) (hy : y ≠ 0) : lpR p h m (k + 1) s L = (bk0, y) := by
  rw [lpR, hR, if_neg (by simp [he]), hD, if_pos hy]
theorem lpR_step {p : List Int} {h : Int} {m : List Int} {k : Nat} {s s' : Rd} {b : List Int} {L : List TxT} (hR : someR s 40000 = (s', b)) (he : s'.err = 0) {t : TxT} (hD : txRd b = (t, 0)) : lpR p h m (k + 1) s L = lpR p h m k s' (L ++ [t]) := by
  rw [lpR, hR, if_neg (by simp [he]), hD, if_neg (by simp)]
set_option maxRecDepth 20000 in
set_option maxHeartbeats 16000000 in
theorem bDecode_any (w : World) (A : Option Addr) (n c : Nat) (bs : List Int) (ho : ByOk bs) (hs : Sl w w.heap.size 1 A n (bs.map (.int .u8))) (hn : n ≤ 1073741824) :
    Calls Tryd.prog 29 #[.slice A n c] w (RetBd 47 (bkRd bs) w) := by
  obtain ⟨z, hz⟩ : ∃ z, w.heap.size = z := ⟨_, rfl⟩
  obtain ⟨w1, hw1⟩ : ∃ w1, w.alloc (.cells #[.int .u8 0, .int .u8 0, .int .u8 0, .int .u8 0, .int .u8 0, .int .u8 0, .int .u8 0, .int .u8 0, .int .i64 0, .int .u8 0, .int .u8 0, .int .u8 0, .int .u8 0, .int .u8 0, .int .u8 0, .int .u8 0, .int .u8 0, .slice none 0 0] 31) = w1 := ⟨_, rfl⟩
  have hb1 : Below w.heap.size w w1 := hw1 ▸ below_new w _
  have kz : Bk w1 z 31 zBk := hw1 ▸ Bk.at_ w _ #[.int .u8 0, .int .u8 0, .int .u8 0, .int .u8 0, .int .u8 0, .int .u8 0, .int .u8 0, .int .u8 0, .int .i64 0, .int .u8 0, .int .u8 0, .int .u8 0, .int .u8 0, .int .u8 0, .int .u8 0, .int .u8 0, .int .u8 0, .slice none 0 0] hz rfl
  have HW := Lib.hid hw1; have HBB1 := Lib.hid hb1; have HZ1 := Lib.hid kz; have HZ := Lib.hid hz
  have HNR := Lib.hid (newReader_any w1 A n c bs ho (hs.later hb1) hn)
  have HBO := Lib.hid ho
  obtain ⟨D, hD⟩ : ∃ D, bkRd bs = D := ⟨_, rfl⟩
  have HDD := Lib.hid hD
  rw [hD]
  clear hw1 hb1 kz hz hs ho hD
  go_enter Tryd.func29, Tryd.ntmps29
  go_upto_region 1 with fail
  rw [HW.out, HZ.out]
  go_wp2_with fail
  refine HNR.out.mono ?_
  rintro e w2 ⟨⟨g, rfl, hgz, hr⟩, hbn⟩
  have HR2 := Lib.hid hr
  have HGZ : Hid (z < g) := by have := HZ1.out.lt; show z < g; omega
  have HBB2 := Lib.hid (below_then HBB1.out hbn)
  have HZ2 := Lib.hid (HZ1.out.later hbn)
  clear hbn
  clear hgz hr HNR HZ1
  obtain ⟨s0, hs0⟩ : ∃ s : Rd, (⟨bs, 0⟩ : Rd) = s := ⟨_, rfl⟩
  rw [hs0] at HR2
  have HS0 := Lib.hid hs0
  clear hs0
  have hbn : Below w2.heap.size w2 (w2.alloc (.cells #[.int .u8 0, .int .u8 0, .int .u8 0, .int .u8 0, .int .u8 0, .int .u8 0, .int .u8 0, .int .u8 0, .int .i64 0, .int .u8 0, .int .u8 0, .int .u8 0, .int .u8 0, .int .u8 0, .int .u8 0, .int .u8 0, .int .u8 0, .slice none 0 0] 31)) := below_new w2 _
  obtain ⟨gl, hgl⟩ : ∃ q, w2.heap.size = q := ⟨_, rfl⟩
  have hlk : Bk (w2.alloc (.cells #[.int .u8 0, .int .u8 0, .int .u8 0, .int .u8 0, .int .u8 0, .int .u8 0, .int .u8 0, .int .u8 0, .int .i64 0, .int .u8 0, .int .u8 0, .int .u8 0, .int .u8 0, .int .u8 0, .int .u8 0, .int .u8 0, .int .u8 0, .slice none 0 0] 31)) gl 31 (bkC zeroD 0 zeroD (.slice none 0 0)) := Bk.at_ w2 _ #[.int .u8 0, .int .u8 0, .int .u8 0, .int .u8 0, .int .u8 0, .int .u8 0, .int .u8 0, .int .u8 0, .int .i64 0, .int .u8 0, .int .u8 0, .int .u8 0, .int .u8 0, .int .u8 0, .int .u8 0, .int .u8 0, .int .u8 0, .slice none 0 0] hgl rfl
  have HGL := Lib.hid hgl
  have hgg := HR2.out.lt
  obtain ⟨w3, hw3⟩ : ∃ x, w2.alloc (.cells #[.int .u8 0, .int .u8 0, .int .u8 0, .int .u8 0, .int .u8 0, .int .u8 0, .int .u8 0, .int .u8 0, .int .i64 0, .int .u8 0, .int .u8 0, .int .u8 0, .int .u8 0, .int .u8 0, .int .u8 0, .int .u8 0, .int .u8 0, .slice none 0 0] 31) = x := ⟨_, rfl⟩
  have HW3 := Lib.hid hw3
  rw [hw3] at hbn hlk
  have HD3 : Hid (TdS 31 w w3 z g gl s0 zBk (bkC zeroD 0 zeroD (.slice none 0 0))) := ⟨HR2.out.later hbn, hlk, HZ2.out.later hbn, below_then HBB2.out hbn, Nat.le_of_eq HZ.out, HGZ.out, by omega⟩
  clear hbn hlk hgg hgl hw3 HR2 HZ2
  go_upto_region 3 with fail
  rw [HW3.out, HGL.out]
  go_wp2_with fail
  obtain ⟨⟨s4, v4⟩, hR⟩ : ∃ R, numR s0 18446744073709551615 = R := ⟨_, rfl⟩
  have HR4 := Lib.hid hR
  have hn := rdNum_any w3 g s0 HD3.out.rd 18446744073709551615
  have hrg := numR_rngE (s := s0) (m := 18446744073709551615) HD3.out.rd.ok (by decide)
  rw [hR] at hn hrg
  have HN := Lib.hid hn
  have HV4 : Hid (0 ≤ v4 ∧ v4 ≤ 18446744073709551615) := ⟨hrg.1, hrg.2.1⟩
  clear hn hrg hR
  refine HN.out.mono ?_
  rintro e w4 ⟨rfl, hs, hg⟩
  have HD4 := Lib.hid (HD3.out.num hs hg)
  clear hs hg HN HD3
  obtain ⟨d4, hd⟩ : ∃ d, fromG v4 = d := ⟨_, rfl⟩
  have hn := fromNum_anyb v4 w4
  have hdo := fromG_ok v4
  rw [hd] at hn hdo
  have HN := Lib.hid hn; have HDEd4 := Lib.hid hd; have HDOd4 := Lib.hid hdo
  clear hn hd hdo
  go_wp2_with fail
  refine HN.out.mono ?_
  rintro e wy ⟨rfl, hbn⟩
  have HDy := Lib.hid (HD4.out.later hbn)
  clear hbn HN HD4
  go_wp2_with (with_reducible refine stop_store 28 _ _ rfl ?_)
  refine StopD.go ?_
  refine wpList_store_part rfl 28 _ _ rfl gl 0 (.agg (dl d4).toArray) (dl d4) rfl rfl rfl 31 ([]) (dl zeroD) (.int .i64 0 :: dl zeroD ++ [.slice none 0 0]) (by have := HDy.out.lk; simpa [txC, bkC] using this) (by simp [dl_len, zero_ok.len]) (by rw [dl_len, dl_len, HDOd4.out.len]; rfl) (hdg_size _ HDOd4.out) (dl_one' _) ?_
  intro w5 hp
  have HD5 := Lib.hid (HDy.out.put (cs' := bkC d4 0 zeroD (.slice none 0 0)) hp.only (by have := hp.bk; simpa [txC, bkC] using this))
  clear hp HDy
  go_wp2_with fail
  obtain ⟨⟨s6, v6⟩, hR⟩ : ∃ R, numR s4 1099511627776 = R := ⟨_, rfl⟩
  have HR6 := Lib.hid hR
  have hn := rdNum_any w5 g s4 HD5.out.rd 1099511627776
  have hrg := numR_rngE (s := s4) (m := 1099511627776) HD5.out.rd.ok (by decide)
  rw [hR] at hn hrg
  have HN := Lib.hid hn
  have HV6 : Hid (0 ≤ v6 ∧ v6 ≤ 1099511627776) := ⟨hrg.1, hrg.2.1⟩
  clear hn hrg hR
  refine HN.out.mono ?_
  rintro e w6 ⟨rfl, hs, hg⟩
  have HD6 := Lib.hid (HD5.out.num hs hg)
  clear hs hg HN HD5
  have hcw : IntKind.i64.wrap v6 = v6 := IntWalk.i64_in _ (by have := HV6.out; omega)
  go_wp2_with (with_reducible refine stop_store 3 _ _ rfl ?_)
  clear hcw
  refine StopD.go ?_
  refine wpList_store_part rfl 3 _ _ rfl gl 8 (.int .i64 v6) [.int .i64 v6] rfl rfl rfl 31 (dl d4) [.int .i64 0] (dl zeroD ++ [.slice none 0 0]) (by have := HD6.out.lk; simpa [txC, bkC] using this) (by simp [dl_len, HDOd4.out.len]) rfl (by kernel_rfl) (by intro x hx; simp at hx; subst hx; rfl) ?_
  intro w7 hp
  have HD7 := Lib.hid (HD6.out.put (cs' := bkC d4 v6 zeroD (.slice none 0 0)) hp.only (by have := hp.bk; simpa [txC, bkC] using this))
  clear hp HD6
  go_wp2_with fail
  obtain ⟨⟨s8, v8⟩, hR⟩ : ∃ R, numR s6 18446744073709551615 = R := ⟨_, rfl⟩
  have HR8 := Lib.hid hR
  have hn := rdNum_any w7 g s6 HD7.out.rd 18446744073709551615
  have hrg := numR_rngE (s := s6) (m := 18446744073709551615) HD7.out.rd.ok (by decide)
  rw [hR] at hn hrg
  have HN := Lib.hid hn
  have HV8 : Hid (0 ≤ v8 ∧ v8 ≤ 18446744073709551615) := ⟨hrg.1, hrg.2.1⟩
  clear hn hrg hR
  refine HN.out.mono ?_
  rintro e w8 ⟨rfl, hs, hg⟩
  have HD8 := Lib.hid (HD7.out.num hs hg)
  clear hs hg HN HD7
  obtain ⟨d8, hd⟩ : ∃ d, fromG v8 = d := ⟨_, rfl⟩
  have hn := fromNum_anyb v8 w8
  have hdo := fromG_ok v8
  rw [hd] at hn hdo
  have HN := Lib.hid hn; have HDEd8 := Lib.hid hd; have HDOd8 := Lib.hid hdo
  clear hn hd hdo
  go_wp2_with fail
  refine HN.out.mono ?_
  rintro e wy ⟨rfl, hbn⟩
  have HDy := Lib.hid (HD8.out.later hbn)
  clear hbn HN HD8
  go_wp2_with (with_reducible refine stop_store 28 _ _ rfl ?_)
  refine StopD.go ?_
  refine wpList_store_part rfl 28 _ _ rfl gl 9 (.agg (dl d8).toArray) (dl d8) rfl rfl rfl 31 (dl d4 ++ [.int .i64 v6]) (dl zeroD) ([.slice none 0 0]) (by have := HDy.out.lk; simpa [txC, bkC] using this) (by simp [dl_len, HDOd4.out.len]) (by rw [dl_len, dl_len, HDOd8.out.len]; rfl) (hdg_size _ HDOd8.out) (dl_one' _) ?_
  intro w9 hp
  have HD9 := Lib.hid (HDy.out.put (cs' := bkC d4 v6 d8 (.slice none 0 0)) hp.only (by have := hp.bk; simpa [txC, bkC] using this))
  clear hp HDy
  go_wp2_with fail
  obtain ⟨⟨s10, v10⟩, hR⟩ : ∃ R, numR s8 64 = R := ⟨_, rfl⟩
  have HR10 := Lib.hid hR
  have hn := rdNum_any w9 g s8 HD9.out.rd 64
  have hrg := numR_rngE (s := s8) (m := 64) HD9.out.rd.ok (by decide)
  rw [hR] at hn hrg
  have HN := Lib.hid hn
  have HV10 : Hid (0 ≤ v10 ∧ v10 ≤ 64) := ⟨hrg.1, hrg.2.1⟩
  clear hn hrg hR
  refine HN.out.mono ?_
  rintro e w10 ⟨rfl, hs, hg⟩
  have HD10 := Lib.hid (HD9.out.num hs hg)
  clear hs hg HN HD9
  have HDE : Hid (D = lpR d4 v6 d8 v10.toNat s10 []) := by
    show _ = _
    rw [← HDD.out, bkRd, HS0.out, HR4.out]
    show bkR2 v4 (numR s4 1099511627776) = _
    rw [HR6.out]
    show bkR3 v4 v6 (numR s6 18446744073709551615) = _
    rw [HR8.out]
    show bkR4 v4 v6 v8 (numR s8 64) = _
    rw [HR10.out, bkR4, HDEd4.out, HDEd8.out]
  obtain ⟨nn, hnn⟩ : ∃ m : Nat, v10 = m := ⟨v10.toNat, by have := HV10.out; omega⟩
  subst hnn
  rw [Int.toNat_natCast] at HDE
  have HNN : Hid (nn ≤ 64) := by have := HV10.out; show nn ≤ 64; omega
  clear HDD HS0 HR4 HR6 HR8 HR10 HV4 HV6 HV8 HV10
  have HGW : Hid (gl < w10.heap.size) := HD10.out.lk.lt
  have HB10 : Hid (w.heap.size ≤ w10.heap.size) := HD10.out.hb.size
  have hcw : IntKind.i64.wrap (nn : Int) = nn := IntWalk.i64_in _ (by have := HNN.out; omega)
  obtain ⟨i0, hi, hi0, hi1, hi2⟩ := info_parts Tryd.infoTx
  go_wp2_with fail
  clear hcw
  go_loopw [6, 7, 8, 9, 29] (fun _ _ _ _ kv wr => ∃ (k : Nat) (s : Rd) (Lk : List TxT) (ys : List (List Value × TxT)) (v : Value), k ≤ nn ∧ kv = .int .i64 k ∧ Lk.length = k ∧ Hid (D = lpR d4 v6 d8 (nn - k) s Lk) ∧ Hid (TdS 31 w wr z g gl s zBk (bkC d4 v6 d8 v)) ∧ Hid (OwnY 47 w10.heap.size wr v k Lk ys) ∧ Hid (w10.heap.size ≤ wr.heap.size)) (fun _ _ _ _ kv _ => nn - (intOf kv).toNat)
  case atStart => exact ⟨0, s10, [], [], _, Nat.zero_le _, rfl, rfl, HDE, HD10, OwnY.nil _ _ _, Nat.le_refl _⟩
  case round =>
    obtain ⟨k, s, Lk, ys, v, hk, rfl, hLk, HE, HDr, HJ, HWS⟩ := hrel
    have hn64 := HNN.out
    by_cases hlt : k < nn
    · have hki : (k : Int) < nn := by omega
      have hk0 : (0 : Int) ≤ k := by omega
      obtain ⟨j, hj⟩ : ∃ j, nn - k = j + 1 := ⟨nn - k - 1, by omega⟩
      have hj1 : nn - (k + 1) = j := by omega
      rw [hj] at HE
      have HJ1 := Lib.hid hj1; have HLT := Lib.hid hlt; have HLEN := Lib.hid hLk
      clear hj hj1
      as_aux_lemma =>
      go_wp2_with fail
      obtain ⟨⟨s11, b11⟩, hR⟩ : ∃ R, someR s 40000 = R := ⟨_, rfl⟩
      have HR11 := Lib.hid hR
      have hn := rdBytes_any wr g s HDr.out.rd 40000 (by decide) (by decide)
      have hrg := someR_okE (s := s) HDr.out.rd.ok 40000
      have hrl := someR_len (s := s) (m := 40000) (by decide) HDr.out.rd.ok
      rw [hR] at hn hrg hrl
      have HN := Lib.hid hn
      have HV11 : Hid (ByOk b11 ∧ (b11.length : Int) ≤ 40000) := ⟨hrg.1, hrl⟩
      clear hn hrg hrl hR
      refine HN.out.mono ?_
      rintro e w11 ⟨v11, rfl, hown, hs, hg⟩
      obtain ⟨A11, c11, rfl⟩ := own_form hown
      have HD11 := Lib.hid (HDr.out.num hs hg)
      have HO11 := Lib.hid (own_base hown HDr.out.hb.size)
      have HJ11 : Hid (OwnY 47 w10.heap.size w11 v k Lk ys) := by obtain ⟨rc, hrc⟩ := HDr.out.rd.bk; exact HJ.out.grown hg hrc (by decide) (by decide)
      have HW11 : Hid (w10.heap.size ≤ w11.heap.size) := Nat.le_trans HWS.out hg.size
      clear hown hs hg HN HDr HJ HWS
      go_wp2_with fail
      obtain ⟨x, hx⟩ : ∃ x, s11.err = x := ⟨_, rfl⟩
      have HX := Lib.hid hx
      have hn := rdErr_any w11 g s11 HD11.out.rd
      rw [hx] at hn
      have HN := Lib.hid hn
      clear hn hx
      refine HN.out.mono ?_
      rintro e w12 ⟨rfl, hw⟩
      subst hw
      clear HN
      by_cases hx0 : x = 0
      · subst hx0
        obtain ⟨⟨t13, y13⟩, hT⟩ : ∃ R, txRd b11 = R := ⟨_, rfl⟩
        have HTR := Lib.hid hT
        have hd := txDecode_any w11 A11 b11.length c11 b11 HV11.out.1 (Sl.of_own HO11.out) (by have := HV11.out.2; omega)
        rw [hT] at hd
        have HN := Lib.hid hd
        clear hd hT
        go_wp2_with fail
        refine HN.out.mono ?_
        rintro e w13 ⟨cs, rfl, hg13, hbn⟩
        have HD13 := Lib.hid (HD11.out.later hbn); have HJ13 := Lib.hid (HJ11.out.later hbn); have HG13 := Lib.hid (hg13.base HW11.out); have HW13 : Hid (w10.heap.size ≤ w13.heap.size) := Nat.le_trans HW11.out hbn.size
        have HGX := Lib.hid hg13.g
        clear hbn hg13 HN HD11 HJ11 HO11 HW11
        go_wp2_with (with_reducible refine stop_store 47 _ _ rfl ?_)
        refine StopD.go ?_
        obtain ⟨g14, hg14⟩ : ∃ g, w13.heap.size = g := ⟨_, rfl⟩
        have hbn : Below w13.heap.size w13 (w13.alloc (.cells #[.int .u8 0, .int .u8 0, .int .u8 0, .int .u8 0, .int .u8 0, .int .u8 0, .int .u8 0, .int .u8 0, .int .i64 0, .int .i64 0, .int .i64 0, .slice none 0 0, .slice none 0 0] 47)) := below_new w13 _
        have kt : Bk (w13.alloc (.cells #[.int .u8 0, .int .u8 0, .int .u8 0, .int .u8 0, .int .u8 0, .int .u8 0, .int .u8 0, .int .u8 0, .int .i64 0, .int .i64 0, .int .i64 0, .slice none 0 0, .slice none 0 0] 47)) g14 47 ([] ++ (zTx ++ [])) := by rw [← hg14]; exact Bk.new' w13 _ #[.int .u8 0, .int .u8 0, .int .u8 0, .int .u8 0, .int .u8 0, .int .u8 0, .int .u8 0, .int .u8 0, .int .i64 0, .int .i64 0, .int .i64 0, .slice none 0 0, .slice none 0 0] rfl
        rw [hg14]
        refine wpList_store_part rfl 47 _ _ rfl g14 0 (.agg (cs).toArray) (cs) rfl rfl rfl 47 [] zTx [] kt rfl (by rw [HGX.out.len]; rfl) HGX.out.size HGX.out.one ?_
        intro w14 hp
        have hbn : Below w13.heap.size w13 w14 := hbn.grown hp.only hbn.size (fun q hq => by injection hq with hq; omega)
        have HT14 : Hid (Bk w14 g14 47 (cs)) := by show Bk _ _ _ _; have := hp.bk; simpa using this
        clear hp kt hg14
        have HD14 := Lib.hid (HD13.out.later hbn); have HJ14 := Lib.hid (HJ13.out.later hbn); have HG14 := Lib.hid (HG13.out.later hbn); have HW14 : Hid (w10.heap.size ≤ w14.heap.size) := Nat.le_trans HW13.out hbn.size
        clear hbn HD13 HJ13 HG13 HW13 HGX
        by_cases hy0 : y13 = 0
        · subst hy0
          have HE2 : Hid (D = lpR d4 v6 d8 j s11 (Lk ++ [t13])) := HE.out.trans (lpR_step HR11.out HX.out HTR.out)
          have c17 := (bkc_mem HDOd4.out HDOd8.out HD14.out.lk).c17
          have HSZ := Lib.hid HG14.out.g.size
          obtain ⟨⟨A1, B1, N1, C1, M1, D1, hcs, _⟩, hok⟩ := HG14.out
          have HTO := Lib.hid hok.f
          subst hcs
          clear hok HE
          go_wp2_with (first
            | (with_reducible refine wpList_load_bk rfl 47 _ rfl g14 rfl (txC t13 (.slice A1 N1 C1) (.slice B1 M1 D1)) 47 HT14.out _ Tryd.underlying47 rfl HSZ.out ?_)
            | (with_reducible refine stop_bs2 29 _ _ rfl ?_))
          clear c17
          refine StopD.go ?_
          refine wpList_bsliceG2 rfl 29 1 _ rfl #[(0, .agg (txC t13 (.slice A1 N1 C1) (.slice B1 M1 D1)).toArray)] ?_ 47 (txC t13 (.slice A1 N1 C1) (.slice B1 M1 D1)) (fun w => bs_tx HTO.out A1 B1 N1 C1 M1 D1 w) ?_
          · simp [Act.eval, Act.put]
          intro q8 w15 hq8 hb8 hbn
          have HD15 := Lib.hid (HD14.out.later hbn); have HJ15 := Lib.hid (HJ14.out.later hbn); have HG15 := Lib.hid (HG14.out.later hbn); have HW15 : Hid (w10.heap.size ≤ w15.heap.size) := Nat.le_trans HW14.out hbn.size
          have HC8 := Lib.hid hb8
          clear hq8 hb8 hbn HD14 HJ14 HG14 HW14 HT14
          go_wp2_with (at_builtin; refine stop_here2 ?_)
          refine StopD.go ?_
          refine wpList_app _ rfl (.tmp 49) (.tmp 51) 29 rfl w10.heap.size 47 i0 (.agg zTx.toArray) 13 80 Tryd.underlying29 hi hi0 hi1 hi2 rfl (by decide) _ _ _ rfl HJ15.out.own _ _ _ _ _ rfl (Sl.of_own (HC8.out.own (base := 0) (size := 13) (cap := 1) (n := 1) (Nat.zero_le _) (Nat.le_refl _) (by omega) (by rw [txC_len HTO.out]) (by rw [List.take_of_length_le (by rw [txC_len HTO.out]; exact Nat.le_refl _)]))) txC_one (by unfold maxLen; omega) (by omega) HW15.out ?_
          intro v16 w16 hown hgr hat
          have HD16 := Lib.hid (HD15.out.row HJ15.out.own HGW.out hgr)
          have HJ16 := Lib.hid (HJ15.out.app (by decide) HG15.out hown hgr)
          have HW16 : Hid (w10.heap.size ≤ w16.heap.size) := Nat.le_trans HW15.out hgr.size
          obtain ⟨A16, c16, hv16⟩ := own_form hown
          subst hv16
          clear hown hgr hat HD15 HJ15 HG15 HC8 HW15
          go_wp2_with (with_reducible refine stop_store 29 _ _ rfl ?_)
          refine StopD.go ?_
          refine wpList_store_part rfl 29 _ _ rfl gl 17 (.slice A16 (k + 1) c16) [.slice A16 (k + 1) c16] rfl rfl rfl 31 (dl d4 ++ .int .i64 v6 :: dl d8) [v] [] (by have := HD16.out.lk; simpa [bkC] using this) (by simp [dl_len, HDOd4.out.len, HDOd8.out.len]) rfl (by kernel_rfl) (by intro x hx; simp at hx; subst hx; rfl) ?_
          intro w17 hp
          have HD17 := Lib.hid (HD16.out.put (cs' := bkC d4 v6 d8 (.slice A16 (k + 1) c16)) hp.only (by have := hp.bk; simpa [bkC] using this))
          have HJ17 := Lib.hid (HJ16.out.grown hp.only HD16.out.lk (by decide) (by decide))
          have HW17 : Hid (w10.heap.size ≤ w17.heap.size) := Nat.le_trans HW16.out hp.only.size
          clear hp HD16 HJ16 HW16
          have HE3 : Hid (D = lpR d4 v6 d8 (nn - (k + 1)) s11 (Lk ++ [t13])) := by show _ = _; rw [HJ1.out]; exact HE2.out
          go_wp2_with fail
          go_roundw
          case rel => exact ⟨k + 1, s11, Lk ++ [t13], _, _, HLT.out, by go_num, by rw [List.length_append, HLEN.out]; rfl, HE3, HD17, HJ17, HW17⟩
          case measure => simp [intOf]; have := HLT.out; omega
        · have HDF : Hid (D = (bk0, y13)) := HE.out.trans (lpR_bad HR11.out HX.out HTR.out hy0)
          have hyn : (y13 != 0) = true := by simpa using hy0
          clear HE hy0
          have hzl := z_blk
          go_wp2_with (first
            | ((with_reducible refine wpList_build rfl 31 _ rfl #[] ?_ _ (hzl _) ?_); focus (simp [Act.eval, Act.put]; done))
            | (with_reducible refine stop_store 31 _ _ rfl ?_))
          clear hzl
          refine StopD.go ?_
          refine wpList_store_part rfl 31 _ _ rfl z 0 (.agg zBk.toArray) zBk rfl rfl rfl 31 [] zBk [] (by simpa using HD14.out.rs) rfl rfl zBk_size zBk_one ?_
          intro wz hp
          have HRz : Hid (Bk wz z 31 zBk) := by show Bk _ _ _ _; have := hp.bk; simpa using this
          have HBz := Lib.hid (below_only HD14.out.hb hp.only HD14.out.hb.size HD14.out.o.1)
          clear hp
          go_wp2_with fail
          refine bodyPost_ret (bd_ret zBk_size HRz.out _ rfl rfl) rfl ?_
          rw [HDF.out]
          exact ⟨.slice none 0 0, [], rfl, OwnY.nil _ _ _, zero_ok, zero_ok, Nat.zero_le _, HBz.out⟩
      · have HDF : Hid (D = (bk0, x)) := by show _ = _; rw [HE.out, lpR_err HR11.out (by rw [HX.out]; exact hx0), HX.out]
        have hxn : (x != 0) = true := by simpa using hx0
        clear HE hx0
        have hzl := z_blk
        go_wp2_with (first
          | ((with_reducible refine wpList_build rfl 31 _ rfl #[] ?_ _ (hzl _) ?_); focus (simp [Act.eval, Act.put]; done))
          | (with_reducible refine stop_store 31 _ _ rfl ?_))
        clear hzl
        refine StopD.go ?_
        refine wpList_store_part rfl 31 _ _ rfl z 0 (.agg zBk.toArray) zBk rfl rfl rfl 31 [] zBk [] (by simpa using HD11.out.rs) rfl rfl zBk_size zBk_one ?_
        intro wz hp
        have HRz : Hid (Bk wz z 31 zBk) := by show Bk _ _ _ _; have := hp.bk; simpa using this
        have HBz := Lib.hid (below_only HD11.out.hb hp.only HD11.out.hb.size HD11.out.o.1)
        clear hp
        go_wp2_with fail
        refine bodyPost_ret (bd_ret zBk_size HRz.out _ rfl rfl) rfl ?_
        rw [HDF.out]
        exact ⟨.slice none 0 0, [], rfl, OwnY.nil _ _ _, zero_ok, zero_ok, Nat.zero_le _, HBz.out⟩
    · as_aux_lemma =>
      have hki : ¬ ((k : Int) < nn) := by omega
      obtain rfl : k = nn := by omega
      rw [Nat.sub_self, lpR_fin] at HE
      obtain ⟨A20, c20, hv⟩ := own_form HJ.out.own
      subst hv
      have HLK := Lib.hid hLk
      clear hLk hn64 hlt hk
      go_wp2_with fail
      obtain ⟨x, hx⟩ : ∃ x, endR s = x := ⟨_, rfl⟩
      have hn := rdEnd_any wr g s HDr.out.rd
      rw [hx] at hn HE
      have HN := Lib.hid hn
      clear hn hx
      refine HN.out.mono ?_
      rintro e w18 ⟨rfl, q18, hq⟩
      have hbn : Below wr.heap.size wr w18 := hq ▸ below_draws wr _ q18
      have HD18 := Lib.hid (HDr.out.later hbn); have HJ18 := Lib.hid (HJ.out.later hbn)
      clear hq hbn HN HDr HJ
      have HSZ := Lib.hid (blk_sz (h := v6) (s := .slice A20 k c20) HDOd4.out HDOd8.out)
      by_cases hx0 : x = 0
      · subst hx0
        have HE1 : Hid (D = if blkE v6 Lk ≠ 0 then (bk0, blkE v6 Lk) else (⟨d4, v6, d8, Lk⟩, 0)) := by show _ = _; rw [HE.out, bkFin, if_neg (by simp)]
        have hck := right_b w18 d4 v6 d8 HDOd4.out HDOd8.out A20 k c20 ys HJ18.out.txs
        rw [HJ18.out.map] at hck
        obtain ⟨y, hy⟩ : ∃ y, blkE v6 Lk = y := ⟨_, rfl⟩
        rw [hy] at hck HE1
        have HCK := Lib.hid hck
        clear hck hy HE
        go_wp2_with (with_reducible refine wpList_load_bk rfl 31 _ rfl gl rfl (bkC d4 v6 d8 (.slice A20 k c20)) 31 HD18.out.lk _ Tryd.underlying31 rfl HSZ.out ?_)
        refine HCK.out.mono ?_
        rintro e w19 ⟨rfl, hbn⟩
        have HD19 := Lib.hid (HD18.out.later hbn); have HJ19 := Lib.hid (HJ18.out.later hbn)
        clear hbn HD18 HJ18 HCK
        by_cases hy0 : y = 0
        · subst hy0
          have HDF : Hid (D = (⟨d4, v6, d8, Lk⟩, 0)) := by show _ = _; rw [HE1.out, if_neg (by simp)]
          clear HE1
          go_wp2_with (first
            | (with_reducible refine wpList_load_bk rfl 31 _ rfl gl rfl (bkC d4 v6 d8 (.slice A20 k c20)) 31 HD19.out.lk _ Tryd.underlying31 rfl HSZ.out ?_)
            | (with_reducible refine stop_store 31 _ _ rfl ?_))
          refine StopD.go ?_
          refine wpList_store_part rfl 31 _ _ rfl z 0 (.agg (bkC d4 v6 d8 (.slice A20 k c20)).toArray) (bkC d4 v6 d8 (.slice A20 k c20)) rfl rfl rfl 31 [] zBk [] (by simpa using HD19.out.rs) rfl (by rw [bkC_len HDOd4.out HDOd8.out]; rfl) HSZ.out bkC_one ?_
          intro wz hp
          have HRz : Hid (Bk wz z 31 (bkC d4 v6 d8 (.slice A20 k c20))) := by show Bk _ _ _ _; have := hp.bk; simpa using this
          have HBz := Lib.hid (below_only HD19.out.hb hp.only HD19.out.hb.size HD19.out.o.1)
          have HJz := Lib.hid ((HJ19.out.grown hp.only HD19.out.rs (by decide) (by decide)).base HB10.out)
          clear hp
          go_wp2_with fail
          refine bodyPost_ret (bd_ret HSZ.out HRz.out _ rfl rfl) rfl ?_
          rw [HDF.out]
          exact ⟨.slice A20 k c20, ys, rfl, by show OwnY _ _ _ _ Lk.length Lk ys; rw [HLK.out]; exact HJz.out, HDOd4.out, HDOd8.out, by show Lk.length ≤ 64; rw [HLK.out]; exact HNN.out, HBz.out⟩
        · have HDF : Hid (D = (bk0, y)) := by show _ = _; rw [HE1.out, if_pos hy0]
          have hyn : (y != 0) = true := by simpa using hy0
          clear HE1 hy0
          have hzl := z_blk
          go_wp2_with (first
            | ((with_reducible refine wpList_build rfl 31 _ rfl #[] ?_ _ (hzl _) ?_); focus (simp [Act.eval, Act.put]; done))
            | (with_reducible refine stop_store 31 _ _ rfl ?_))
          clear hzl
          refine StopD.go ?_
          refine wpList_store_part rfl 31 _ _ rfl z 0 (.agg zBk.toArray) zBk rfl rfl rfl 31 [] zBk [] (by simpa using HD19.out.rs) rfl rfl zBk_size zBk_one ?_
          intro wz hp
          have HRz : Hid (Bk wz z 31 zBk) := by show Bk _ _ _ _; have := hp.bk; simpa using this
          have HBz := Lib.hid (below_only HD19.out.hb hp.only HD19.out.hb.size HD19.out.o.1)
          clear hp
          go_wp2_with fail
          refine bodyPost_ret (bd_ret zBk_size HRz.out _ rfl rfl) rfl ?_
          rw [HDF.out]
          exact ⟨.slice none 0 0, [], rfl, OwnY.nil _ _ _, zero_ok, zero_ok, Nat.zero_le _, HBz.out⟩
      · have HDF : Hid (D = (bk0, x)) := by show _ = _; rw [HE.out, bkFin, if_pos hx0]
        have hxn : (x != 0) = true := by simpa using hx0
        clear HE hx0
        have hzl := z_blk
        go_wp2_with (first
          | ((with_reducible refine wpList_build rfl 31 _ rfl #[] ?_ _ (hzl _) ?_); focus (simp [Act.eval, Act.put]; done))
          | (with_reducible refine stop_store 31 _ _ rfl ?_))
        clear hzl
        refine StopD.go ?_
        refine wpList_store_part rfl 31 _ _ rfl z 0 (.agg zBk.toArray) zBk rfl rfl rfl 31 [] zBk [] (by simpa using HD18.out.rs) rfl rfl zBk_size zBk_one ?_
        intro wz hp
        have HRz : Hid (Bk wz z 31 zBk) := by show Bk _ _ _ _; have := hp.bk; simpa using this
        have HBz := Lib.hid (below_only HD18.out.hb hp.only HD18.out.hb.size HD18.out.o.1)
        clear hp
        go_wp2_with fail
        refine bodyPost_ret (bd_ret zBk_size HRz.out _ rfl rfl) rfl ?_
        rw [HDF.out]
        exact ⟨.slice none 0 0, [], rfl, OwnY.nil _ _ _, zero_ok, zero_ok, Nat.zero_le _, HBz.out⟩
end Go.Proofs.YtbpmomedhdmloaaDoor
