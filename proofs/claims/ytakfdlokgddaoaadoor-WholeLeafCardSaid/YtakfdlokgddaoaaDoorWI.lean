/- A ring, read off bytes: what its closures read. -/
import Derived.Test.YtakfdlokgddaoaaDoorWH
namespace Go.Proofs.YtakfdlokgddaoaaDoor
set_option linter.unusedSimpArgs false
set_option linter.unusedVariables false
open Go.RowKit Go.Maps

theorem knum_feed {n : Nat} {m : Int} (hn : (n : Int) ≤ m) (h64 : n < 18446744073709551616) (rest : List Int) : numR ⟨numB n ++ rest, 0⟩ m = (⟨rest, 0⟩, (n : Int)) := by
  unfold numR
  rw [if_pos rfl, look_num n h64 _, if_pos rfl, if_pos hn, List.drop_left]
theorem ksome_feed {xs : List Int} {m : Int} (hn : (xs.length : Int) ≤ m) (h64 : xs.length < 18446744073709551616) (rest : List Int) : someR ⟨lstB xs ++ rest, 0⟩ m = (⟨rest, 0⟩, xs) := by
  have e : lstB xs ++ rest = numB xs.length ++ (xs ++ rest) := by simp [lstB]
  rw [e, some_yes rfl (by rw [look_num _ h64 _]) (by rw [look_num _ h64 _]; exact hn) (by rw [look_num _ h64 _]; simp; omega), look_num _ h64 _]
  simp
section
variable {w w' : World} {B g L : Nat} {s : Rd}
theorem RdAt.below (h : RdAt w g L s) (hb : Below B w w') (hg : g < B) (hL : L ≤ B) : RdAt w' g L s := by
  obtain ⟨A, n, c, bs, k, h1, h2, h3, h4, h5, h6, h7, h8⟩ := h
  refine ⟨A, n, c, bs, k, h1.below hb hg, ⟨h2.len, h2.le, fun hn => ?_⟩, h3, h4, h5, h6, h7, h8⟩
  obtain ⟨ad, e, hbb, hc⟩ := h2.mem hn
  exact ⟨ad, e, Nat.lt_of_lt_of_le hbb hb.size, fun j u hu => (hb.cell (by rw [add_block]; have := (h8 ad e).2; omega)).trans (hc j u hu)⟩
end
/-- The reader, behind its box; the error, behind its own: none. -/
structure OpB (w : World) (base g pr pe : Nat) (s : List Int) : Prop where
  h1 : base ≤ g
  h2 : g < pr
  h3 : pr < pe
  kr : Bk w pr 75 [.pointer (some ⟨g, 0, none⟩)]
  ke : Bk w pe 26 [.int .i64 0]
  rd : RdAt w g g ⟨s, 0⟩
theorem OpB.below {w w' : World} {base g pr pe B : Nat} {s : List Int} (h : OpB w base g pr pe s) (hb : Below B w w') (hB : pe < B) : OpB w' base g pr pe s :=
  ⟨h.h1, h.h2, h.h3, h.kr.below hb (by have := h.h3; omega), h.ke.below hb hB, h.rd.below hb (by have := h.h2; have := h.h3; omega) (by have := h.h2; have := h.h3; omega)⟩
theorem OpB.later {w w' : World} {base g pr pe : Nat} {s : List Int} (h : OpB w base g pr pe s) (hb : Below w.heap.size w w') : OpB w' base g pr pe s := h.below hb h.ke.lt
abbrev nilV : Value := .slice none 0 0
set_option maxRecDepth 20000 in
set_option maxHeartbeats 4000000 in
theorem odig_any (w : World) (base g pr pe : Nat) (d rest : List Int) (hd : DgOk d) (h : OpB w base g pr pe (lstB d ++ rest)) :
    Calls Tryd.prog 32 #[.pointer (some ⟨pr, 0, none⟩), .pointer (some ⟨pe, 0, none⟩)] w fun e w' => e = .returned (.agg (dl d).toArray) ∧ OpB w' base g pr pe rest ∧ Chg w w' g pe nilV := by
  obtain ⟨z, hz⟩ : ∃ z, w.heap.size = z := ⟨_, rfl⟩
  obtain ⟨w1, hw1⟩ : ∃ w1, w.alloc (.cells #[.int .u8 0, .int .u8 0, .int .u8 0, .int .u8 0, .int .u8 0, .int .u8 0, .int .u8 0, .int .u8 0] 23) = w1 := ⟨_, rfl⟩
  have hb1 : Below w.heap.size w w1 := hw1 ▸ below_new w _
  have kr : Bk w1 z 23 ([] ++ (dl zeroD ++ [])) := hw1 ▸ Bk.at_ w _ #[.int .u8 0, .int .u8 0, .int .u8 0, .int .u8 0, .int .u8 0, .int .u8 0, .int .u8 0, .int .u8 0] hz rfl
  have HW := Lib.hid hw1; have HZ := Lib.hid hz; have HR1 := Lib.hid kr; have HDO := Lib.hid hd; have HO1 := Lib.hid (h.later hb1); have HC1 : Hid (Chg w w1 g pe nilV) := Chg.of_below hb1
  have HPZ : Hid (base ≤ g ∧ g < pr ∧ pr < pe ∧ pe < z) := ⟨h.h1, h.h2, h.h3, by rw [← hz]; exact h.ke.lt⟩
  have hfe := ksome_feed (xs := d) (m := 8) (by rw [hd.len]; decide) (by rw [hd.len]; decide) rest
  have HFE := Lib.hid hfe
  have hl8 := hd.len
  clear hw1 hb1 kr hz hd h hfe
  go_enter Tryd.func32, Tryd.ntmps32
  go_upto_region 1 with fail
  rw [HW.out, HZ.out]
  have cr := one_cell HO1.out.kr
  go_wp2_with fail
  clear cr
  have hrb := rdBytes_any w1 g _ HO1.out.rd 8 (by omega) (by omega)
  rw [HFE.out] at hrb
  refine hrb.mono ?_
  clear hrb
  rintro e w2 ⟨v, rfl, hown, hrd, hgr⟩
  rw [hl8] at hown
  obtain ⟨A, c, rfl⟩ := own_form hown
  obtain ⟨q, cap, zs, hq, hqb, hqk, hqc, hqm, hql, hqt⟩ : ∃ (q cap : Nat) (zs : List Value), (Value.slice A 8 c) = .slice (some ⟨q, 0, none⟩) 8 cap ∧ w1.heap.size ≤ q ∧ Bk w2 q 5 zs ∧ 8 ≤ cap ∧ cap ≤ 9223372036854775807 ∧ zs.length = cap * 1 ∧ zs.take (8 * 1) = d.map (.int .u8) := by
    rcases own_bk hown with ⟨e, h0, _⟩ | h
    · exact absurd h0 (by decide)
    · exact h
  injection hq with e1 _ e3
  subst e1 e3
  have hs1 : w1.heap.size ≤ w2.heap.size := hgr.size
  have HR2 := Lib.hid (HR1.out.grown hgr (by intro e; injection e with e; have := HPZ.out; omega))
  have hkr := HO1.out.kr.grown hgr (by intro e; injection e with e; have := HPZ.out; omega)
  have hke := HO1.out.ke.grown hgr (by intro e; injection e with e; have := HPZ.out; omega)
  have HKR := Lib.hid hkr; have HKE := Lib.hid hke; have HRD := Lib.hid hrd
  have HC2 : Hid (Chg w w2 g pe nilV) := HC1.out.then_grown hgr (fun r hr => by injection hr with hr; exact .inl hr.symm)
  have HQ2 : Hid (w2.rangeAt q 0 (dl d)) := by
    intro j u hu
    show w2.cell? ⟨q, 0 + j, none⟩ = some u
    have hj : j < 8 := by have := (List.getElem?_eq_some_iff.1 hu).1; rwa [dl_len, hl8] at this
    rw [hqk.cell, Nat.zero_add]
    rw [show dl d = zs.take 8 from hqt.symm] at hu
    rwa [List.getElem?_take_of_lt hj] at hu
  have HQL : Hid (q < w2.heap.size) := hqk.lt
  have HQZ : Hid (z < q) := by have := HR1.out.lt; show z < q; omega
  clear hown hrd hgr hqb hqk hqm hql hqt hkr hke hs1 HO1 HC1 HR1 hl8
  have cr := one_cell HKR.out
  have ce := one_cell HKE.out
  go_wp2_with fail
  refine (rdErr_any _ g _ HRD.out).mono ?_
  rintro e w3 ⟨rfl, rfl⟩
  go_wp2_with (with_reducible refine stop_store 26 _ _ rfl ?_)
  refine StopD.go ?_
  refine wpList_store_part rfl 26 _ _ rfl pe 0 (.int .i64 0) [.int .i64 0] rfl rfl rfl 26 [] [.int .i64 0] [] (by simpa using HKE.out) rfl rfl (by kernel_rfl) (by simp [Value.oneCell']) ?_
  intro w3 hp
  have HKE3 : Hid (Bk w3 pe 26 [.int .i64 0]) := by show Bk _ _ _ _; have := hp.bk; simpa using this
  have HKR3 := Lib.hid (HKR.out.grown hp.only (by intro e; injection e with e; have := HPZ.out; omega))
  have HR3 := Lib.hid (HR2.out.grown hp.only (by intro e; injection e with e; have := HPZ.out; omega))
  have HRD3 := Lib.hid (HRD.out.only hp.only (by have := HPZ.out; omega) (by have := HPZ.out; omega))
  have HC3 : Hid (Chg w w3 g pe nilV) := HC2.out.then_grown hp.only (fun r hr => by injection hr with hr; exact .inr (.inl hr.symm))
  have HQ3 := Lib.hid (range_only HQ2.out hp.only HQL.out (by have := HPZ.out; have := HQZ.out; omega))
  clear hp HKE HKR HR2 HRD HC2 HQ2 cr ce
  have ce := one_cell HKE3.out
  have har : ∀ w, (Instr.arrayAt 23 (.slice (some ⟨q, 0, none⟩) 8 c)).run Tryd.prog w = .ok (.pointer (some ⟨q, 0, none⟩)) w := fun w => run_arrayAt_eight _ _ w
  go_wp2_with (first
    | (with_reducible refine wpList_load_mid rfl 23 _ rfl q 0 rfl (dl d) _ HQ3.out Tryd.underlying23 rfl (hdg_size _ HDO.out) ?_)
    | (with_reducible refine stop_store 23 _ _ rfl ?_))
  refine StopD.go ?_
  refine wpList_store_part rfl 23 _ _ rfl z 0 (.agg (dl d).toArray) (dl d) rfl rfl rfl 23 [] (dl zeroD) [] HR3.out rfl (dg_lensw HDO.out) (hdg_size _ HDO.out) (dl_one' _) ?_
  intro wz hp
  have HTz : Hid (Bk wz z 23 (dl d)) := by show Bk _ _ _ _; have := hp.bk; simpa using this
  have HKEz := Lib.hid (HKE3.out.grown hp.only (by intro e; injection e with e; have := HPZ.out; omega))
  have HKRz := Lib.hid (HKR3.out.grown hp.only (by intro e; injection e with e; have := HPZ.out; omega))
  have HRDz := Lib.hid (HRD3.out.only hp.only (by have := HPZ.out; omega) (by have := HPZ.out; omega))
  have HCz : Hid (Chg w wz g pe nilV) := HC3.out.then_grown hp.only (fun r hr => by injection hr with hr; right; right; right; have := HZ.out; omega)
  clear hp
  go_wp2_with fail
  refine bodyPost_ret (results_cell_bk rfl _ _ z 23 (dl d) _ rfl HTz.out Tryd.underlying23 rfl (hdg_size _ HDO.out)) rfl ?_
  exact ⟨rfl, ⟨HPZ.out.1, HPZ.out.2.1, HPZ.out.2.2.1, HKRz.out, HKEz.out, HRDz.out⟩, HCz.out⟩
set_option maxRecDepth 20000 in
set_option maxHeartbeats 4000000 in
theorem onum_any (w : World) (base g pr pe : Nat) (n m : Nat) (hn : n ≤ m) (hm : m ≤ 4096) (rest : List Int) (h : OpB w base g pr pe (numB n ++ rest)) :
    Calls Tryd.prog 35 #[.int .i64 m, .pointer (some ⟨pe, 0, none⟩), .pointer (some ⟨pr, 0, none⟩)] w fun e w' => e = .returned (.int .i64 n) ∧ OpB w' base g pr pe rest ∧ Chg w w' g pe nilV := by
  have hfe := knum_feed (n := n) (m := m) (by omega) (by omega) rest
  have HFE := Lib.hid hfe
  have HO1 := Lib.hid h
  have HPZ : Hid (base ≤ g ∧ g < pr ∧ pr < pe) := ⟨h.h1, h.h2, h.h3⟩
  have hcw : IntKind.u64.wrap (m : Int) = m := by rw [IntKind.wrap_u64]; omega
  have hcn : IntKind.i64.wrap (n : Int) = n := IntWalk.i64_in _ (by omega)
  clear h hfe
  go_enter Tryd.func35, Tryd.ntmps35
  have cr := one_cell HO1.out.kr
  have ce := one_cell HO1.out.ke
  go_wp2_with fail
  clear cr ce
  have hrb := rdNum_any w g _ HO1.out.rd m
  rw [HFE.out] at hrb
  refine hrb.mono ?_
  clear hrb
  rintro e w2 ⟨rfl, hrd, hgr⟩
  have hkr := HO1.out.kr.grown hgr (by intro e; injection e with e; have := HPZ.out; omega)
  have hke := HO1.out.ke.grown hgr (by intro e; injection e with e; have := HPZ.out; omega)
  have HKR := Lib.hid hkr; have HKE := Lib.hid hke; have HRD := Lib.hid hrd
  have HC2 : Hid (Chg w w2 g pe nilV) := (Chg.refl w).then_grown hgr (fun r hr => by injection hr with hr; exact .inl hr.symm)
  clear hrd hgr hkr hke HO1
  have cr := one_cell HKR.out
  go_wp2_with fail
  refine (rdErr_any _ g _ HRD.out).mono ?_
  rintro e w3 ⟨rfl, rfl⟩
  go_wp2_with (with_reducible refine stop_store 26 _ _ rfl ?_)
  refine StopD.go ?_
  refine wpList_store_part rfl 26 _ _ rfl pe 0 (.int .i64 0) [.int .i64 0] rfl rfl rfl 26 [] [.int .i64 0] [] (by simpa using HKE.out) rfl rfl (by kernel_rfl) (by simp [Value.oneCell']) ?_
  intro w3 hp
  have HKE3 : Hid (Bk w3 pe 26 [.int .i64 0]) := by show Bk _ _ _ _; have := hp.bk; simpa using this
  have HKR3 := Lib.hid (HKR.out.grown hp.only (by intro e; injection e with e; have := HPZ.out; omega))
  have HRD3 := Lib.hid (HRD.out.only hp.only (by have := HPZ.out; omega) (by have := HPZ.out; omega))
  have HC3 : Hid (Chg w w3 g pe nilV) := HC2.out.then_grown hp.only (fun r hr => by injection hr with hr; exact .inr (.inl hr.symm))
  clear hp HKE HKR HRD HC2 cr
  go_wp2_with fail
  go_ret
  exact ⟨rfl, ⟨HPZ.out.1, HPZ.out.2.1, HPZ.out.2.2, HKR3.out, HKE3.out, HRD3.out⟩, HC3.out⟩
end Go.Proofs.YtakfdlokgddaoaaDoor
