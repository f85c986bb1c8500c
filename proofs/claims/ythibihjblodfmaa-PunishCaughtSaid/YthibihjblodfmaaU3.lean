/- What two things show. -/
import Derived.Test.YthibihjblodfmaaU2
namespace Go.Proofs.Ythibihjblodfmaa
open Go.RowKit Go.Maps

section
variable {w : World} {lo g : Nat} {es : List Ent} {z p q r : Nat} {tb ky : List Int} {ca cb : List Value} {A B : Tg}
set_option maxRecDepth 20000 in
set_option maxHeartbeats 4000000 in
theorem ask6_any (h : TwB w lo g es z p q r tb ky ca cb A B) : Calls Try.prog 88 #[.pointer (some ⟨r, 0, none⟩), .pointer (some ⟨z + 3, 0, none⟩), .pointer (some ⟨z + 4, 0, none⟩)] w fun e w' => e = .returned (.int .i64 (unlG (verB es (ky, dgT A) A.ss && verB es (ky, dgT B) B.ss) 16)) ∧ Below w.heap.size w w' := by
  have HT := Lib.hid h
  have cs := one_cell h.s
  have HVA := Lib.hid (signed_any w lo g es z (z + 2) ky ca A h.bk h.el h.kyo h.ga h.v h.k)
  have HVB := Lib.hid (fun w' (h' : TwB w' lo g es z p q r tb ky ca cb A B) => signed_any w' lo g es z (z + 2) ky cb B h'.bk h'.el h'.kyo h'.gb h'.v h'.k)
  obtain ⟨b1, hb1⟩ : ∃ b, verB es (ky, dgT A) A.ss = b := ⟨_, rfl⟩
  obtain ⟨b2, hb2⟩ : ∃ b, verB es (ky, dgT B) B.ss = b := ⟨_, rfl⟩
  rw [hb1] at HVA ⊢
  rw [hb2] at HVB ⊢
  clear h hb1 hb2
  cases b1
  · go_enter Try.func88, Try.ntmps88
    go_wp2_with ((with_reducible refine wpList_load_bkG ?_ 35 _ rfl (z + 3) rfl ca 35 HT.out.a _ Try.underlying35 rfl HT.out.ga.info ?_); rfl)
    refine HVA.out.mono ?_
    rintro e w2 ⟨rfl, hbn⟩
    have HB2 := Lib.hid hbn
    clear hbn
    go_wp2_with fail
    refine (unless_any w2 false 16).mono ?_
    rintro e w3 ⟨rfl, rfl⟩
    go_wp2_with fail
    go_ret
    exact ⟨rfl, HB2.out⟩
  · go_enter Try.func88, Try.ntmps88
    go_wp2_with ((with_reducible refine wpList_load_bkG ?_ 35 _ rfl (z + 3) rfl ca 35 HT.out.a _ Try.underlying35 rfl HT.out.ga.info ?_); rfl)
    refine HVA.out.mono ?_
    rintro e w2 ⟨rfl, hbn⟩
    have HB2 := Lib.hid hbn
    have HT2 := Lib.hid (HT.out.later hbn)
    have cs2 := one_cell HT2.out.s
    clear hbn
    go_wp2_with ((with_reducible refine wpList_load_bkG ?_ 35 _ rfl (z + 4) rfl cb 35 HT2.out.b _ Try.underlying35 rfl HT2.out.gb.info ?_); rfl)
    refine (HVB.out w2 HT2.out).mono ?_
    rintro e w3 ⟨rfl, hbn⟩
    have HB3 := Lib.hid (below_then HB2.out hbn)
    clear hbn
    go_wp2_with fail
    refine (unless_any w3 b2 16).mono ?_
    rintro e w4 ⟨rfl, rfl⟩
    go_wp2_with fail
    go_ret
    exact ⟨rfl, HB3.out⟩
end
/-- What is asked of two things, one behind the other. -/
def asksT (es : List Ent) (tb ky : List Int) (A B : Tg) : List Int :=
  [checkT A.k A.n A.m A.t A.u A.v A.ps A.qs A.ss, checkT B.k B.n B.m B.t B.u B.v B.ps B.qs B.ss, unlG (A.k == B.k) 11, unlG (eqL (placeT A.k A.t A.u) tb && eqL (placeT B.k B.t B.u) tb) 6,
    unlG ((placeN A.k A.n A.m == placeN B.k B.n B.m) && eqL (placeA A.k A.v) (placeA B.k B.v)) 18, unlG (!(eqL (dgT A) (dgT B))) 7, unlG (verB es (ky, dgT A) A.ss && verB es (ky, dgT B) B.ss) 16]
def firstE : List Int → Int
  | [] => 0
  | e :: l => if e = 0 then firstE l else e
def twT (es : List Ent) (tb ky : List Int) (A B : Tg) : Int := firstE (asksT es tb ky A B)
theorem firstE_drop : ∀ {l : List Int} {k : Nat}, (∀ j, j < k → l.getD j 0 = 0) → firstE l = firstE (l.drop k)
  | _, 0, _ => rfl
  | [], k + 1, _ => by simp
  | e :: l, k + 1, h => by
    have h0 : e = 0 := h 0 (by omega)
    rw [firstE, if_pos h0, List.drop_succ_cons]
    exact firstE_drop fun j hj => h (j + 1) (by omega)
def askF (z p q r : Nat) (ca cb : List Value) : List Value :=
  [.func (.func 33) #[.agg ca.toArray] #[], .func (.func 33) #[.agg cb.toArray] #[], .func (.func 83) #[] #[.pointer (some ⟨z + 3, 0, none⟩), .pointer (some ⟨z + 4, 0, none⟩)],
    .func (.func 85) #[] #[.pointer (some ⟨p, 0, none⟩), .pointer (some ⟨z + 1, 0, none⟩), .pointer (some ⟨q, 0, none⟩)], .func (.func 86) #[] #[.pointer (some ⟨p + 1, 0, none⟩), .pointer (some ⟨q + 1, 0, none⟩), .pointer (some ⟨p + 2, 0, none⟩), .pointer (some ⟨q + 2, 0, none⟩)],
    .func (.func 87) #[] #[.pointer (some ⟨z + 3, 0, none⟩), .pointer (some ⟨z + 4, 0, none⟩)], .func (.func 88) #[] #[.pointer (some ⟨r, 0, none⟩), .pointer (some ⟨z + 3, 0, none⟩), .pointer (some ⟨z + 4, 0, none⟩)]]
theorem bs_asks (f0 f1 f2 f3 f4 f5 f6 : FuncId) (a0 a1 a2 a3 a4 a5 a6 b0 b1 b2 b3 b4 b5 b6 : Array Value) (w : World) :
    (Instr.buildSlice 158 7 #[(0, .func (.func f0) a0 b0), (1, .func (.func f1) a1 b1), (2, .func (.func f2) a2 b2), (3, .func (.func f3) a3 b3), (4, .func (.func f4) a4 b4), (5, .func (.func f5) a5 b5), (6, .func (.func f6) a6 b6)]).run Try.prog w = .ok (.slice (some ⟨w.heap.size, 0, none⟩) 7 7) (w.alloc (.cells ([.func (.func f0) a0 b0, .func (.func f1) a1 b1, .func (.func f2) a2 b2, .func (.func f3) a3 b3, .func (.func f4) a4 b4, .func (.func f5) a5 b5, .func (.func f6) a6 b6] : List Value).toArray 62)) := by kernel_rfl
theorem firstE_at {l : List Int} {k : Nat} {E : Int} (hk : k < l.length) (h : ∀ j, j < k → l.getD j 0 = 0) (hE : l.getD k 0 = E) (hne : E ≠ 0) : firstE l = E := by
  rw [firstE_drop h, List.drop_eq_getElem_cons hk, firstE]
  have : l[k] = E := by rw [← hE, List.getD_eq_getElem?_getD, List.getElem?_eq_getElem hk]; rfl
  rw [this, if_neg hne]
set_option maxRecDepth 20000 in
set_option maxHeartbeats 8000000 in
theorem twice_any (w : World) (lo g : Nat) (es : List Ent) (hbk : BookAt w lo g es) (hel : es.length ≤ 65536) (tb ky : List Int) (htb : DgOk tb) (hky : DgOk ky) (ca cb : List Value) (A B : Tg) (ha : Thg w ca A) (hb : Thg w cb B) :
    Calls Try.prog 35 #[.iface 49 (.pointer (some ⟨g, 0, none⟩)), .agg (dl tb).toArray, .agg (dl ky).toArray, .agg ca.toArray, .agg cb.toArray] w fun e w' => e = .returned (.int .i64 (twT es tb ky A B)) ∧ Below w.heap.size w w' := by
  obtain ⟨X1, hX1⟩ : ∃ X, (dl tb).toArray = X := ⟨_, rfl⟩
  obtain ⟨X2, hX2⟩ : ∃ X, (dl ky).toArray = X := ⟨_, rfl⟩
  obtain ⟨X3, hX3⟩ : ∃ X, ca.toArray = X := ⟨_, rfl⟩
  obtain ⟨X4, hX4⟩ : ∃ X, cb.toArray = X := ⟨_, rfl⟩
  obtain ⟨z, hz⟩ : ∃ z, w.heap.size = z := ⟨_, rfl⟩
  obtain ⟨w1, hw1⟩ : ∃ w1, ((((w.alloc (.cells #[.iface 49 (.pointer (some ⟨g, 0, none⟩))] 156)).alloc (.cells X1 29)).alloc (.cells X2 29)).alloc (.cells X3 35)).alloc (.cells X4 35) = w1 := ⟨_, rfl⟩
  have hb1 : Below w.heap.size w w1 := hw1 ▸ ((((below_new w _).alloc (by simp) _).alloc (by simp <;> omega) _).alloc (by simp <;> omega) _).alloc (by simp <;> omega) _
  have k0 : Bk w1 z 156 [.iface 49 (.pointer (some ⟨g, 0, none⟩))] := by rw [← hw1]; exact ((((Bk.at_ w _ #[.iface 49 (.pointer (some ⟨g, 0, none⟩))] hz rfl).alloc _).alloc _).alloc _).alloc _
  have k1 : Bk w1 (z + 1) 29 (dl tb) := hw1 ▸ (((Bk.at_ _ _ X1 (by simp [hz]) (by rw [← hX1])).alloc _).alloc _).alloc _
  have k2 : Bk w1 (z + 2) 29 (dl ky) := hw1 ▸ ((Bk.at_ _ _ X2 (by simp [hz]) (by rw [← hX2])).alloc _).alloc _
  have k3 : Bk w1 (z + 3) 35 ca := hw1 ▸ (Bk.at_ _ _ X3 (by simp [hz]) (by rw [← hX3])).alloc _
  have k4 : Bk w1 (z + 4) 35 cb := hw1 ▸ Bk.at_ _ _ X4 (by simp [hz]) (by rw [← hX4])
  have HW := Lib.hid hw1; have HBB1 := Lib.hid hb1; have H01 := Lib.hid k0; have H11 := Lib.hid k1; have H21 := Lib.hid k2; have H31 := Lib.hid k3; have H41 := Lib.hid k4
  have HA1 := Lib.hid (ha.later hb1); have HB1 := Lib.hid (hb.later hb1); have HK1 := Lib.hid (hbk.later hb1); have HTO := Lib.hid htb; have HKO := Lib.hid hky; have HZ := Lib.hid hz
  have c0 := one_cell k0
  rw [hX1, hX2, hX3, hX4]
  clear hX1 hX2 hX3 hX4 hw1 hb1 k0 k1 k2 k3 k4 ha hb hbk htb hky
  go_enter Try.func35, Try.ntmps35
  go_upto_region 1 with fail
  rw [HW.out]
  go_wp2_with (with_reducible refine wpList_load_bk rfl 35 _ rfl (z + 3) rfl ca 35 H31.out _ Try.underlying35 rfl HA1.out.info ?_)
  refine (thPlace HA1.out).mono ?_
  rintro e w2 ⟨rfl, hbn⟩
  have HBB2 := Lib.hid (below_then HBB1.out hbn)
  have H02 := Lib.hid (H01.out.later hbn)
  have H12 := Lib.hid (H11.out.later hbn)
  have H22 := Lib.hid (H21.out.later hbn)
  have H32 := Lib.hid (H31.out.later hbn)
  have H42 := Lib.hid (H41.out.later hbn)
  have HA2 := Lib.hid (HA1.out.later hbn)
  have HB2 := Lib.hid (HB1.out.later hbn)
  have HK2 := Lib.hid (HK1.out.later hbn)
  clear hbn
  have hpt := placeT_ok (k := (A).k) HA2.out.ht HA2.out.hu
  have hpa := placeA_ok (k := (A).k) HA2.out.hv
  go_wp2_with (with_reducible refine stop_store 29 _ _ rfl ?_)
  refine StopD.go ?_
  obtain ⟨p, hp⟩ : ∃ p, w2.heap.size = p := ⟨_, rfl⟩
  have hbn : Below w2.heap.size w2 (((w2.alloc (.cells #[.int .u8 0, .int .u8 0, .int .u8 0, .int .u8 0, .int .u8 0, .int .u8 0, .int .u8 0, .int .u8 0] 29)).alloc (.cells #[.int .i64 0] 3)).alloc (.cells #[.int .u8 0, .int .u8 0, .int .u8 0, .int .u8 0, .int .u8 0, .int .u8 0, .int .u8 0, .int .u8 0] 29)) := ((below_new w2 _).alloc (by simp) _).alloc (by simp <;> omega) _
  have kt : Bk (((w2.alloc (.cells #[.int .u8 0, .int .u8 0, .int .u8 0, .int .u8 0, .int .u8 0, .int .u8 0, .int .u8 0, .int .u8 0] 29)).alloc (.cells #[.int .i64 0] 3)).alloc (.cells #[.int .u8 0, .int .u8 0, .int .u8 0, .int .u8 0, .int .u8 0, .int .u8 0, .int .u8 0, .int .u8 0] 29)) p 29 ([] ++ (dl zeroD ++ [])) := ((Bk.at_ w2 _ #[.int .u8 0, .int .u8 0, .int .u8 0, .int .u8 0, .int .u8 0, .int .u8 0, .int .u8 0, .int .u8 0] hp rfl).alloc _).alloc _
  have kn : Bk (((w2.alloc (.cells #[.int .u8 0, .int .u8 0, .int .u8 0, .int .u8 0, .int .u8 0, .int .u8 0, .int .u8 0, .int .u8 0] 29)).alloc (.cells #[.int .i64 0] 3)).alloc (.cells #[.int .u8 0, .int .u8 0, .int .u8 0, .int .u8 0, .int .u8 0, .int .u8 0, .int .u8 0, .int .u8 0] 29)) (p + 1) 3 [.int .i64 0] := (Bk.at_ _ _ #[.int .i64 0] (by simp [hp]) rfl).alloc _
  have ku : Bk (((w2.alloc (.cells #[.int .u8 0, .int .u8 0, .int .u8 0, .int .u8 0, .int .u8 0, .int .u8 0, .int .u8 0, .int .u8 0] 29)).alloc (.cells #[.int .i64 0] 3)).alloc (.cells #[.int .u8 0, .int .u8 0, .int .u8 0, .int .u8 0, .int .u8 0, .int .u8 0, .int .u8 0, .int .u8 0] 29)) (p + 2) 29 (dl zeroD) := Bk.at_ _ _ #[.int .u8 0, .int .u8 0, .int .u8 0, .int .u8 0, .int .u8 0, .int .u8 0, .int .u8 0, .int .u8 0] (by simp [hp]) rfl
  have hle : w2.heap.size ≤ p := by omega
  rw [hp]
  refine wpList_store_part rfl 29 _ _ rfl p 0 (.agg (dl (placeT (A).k (A).t (A).u)).toArray) (dl (placeT (A).k (A).t (A).u)) rfl rfl rfl 29 [] (dl zeroD) [] kt rfl ((dl_len zeroD).trans (zero_ok.len.trans (hpt.len.symm.trans (dl_len _).symm))) (dg_sz hpt) (dl_one _) ?_
  intro wa hp
  have hbn := hbn.grown hp.only hbn.size (fun q hq => by injection hq with hq; omega)
  have kt : Bk wa p 29 (dl (placeT (A).k (A).t (A).u)) := by have := hp.bk; simpa using this
  have kn : Bk wa (p + 1) 3 ([] ++ ([.int .i64 0] ++ [])) := kn.grown hp.only (by intro h; injection h with h; omega)
  have ku := ku.grown hp.only (by intro h; injection h with h; omega)
  clear hp
  go_wp2_with (with_reducible refine stop_store 3 _ _ rfl ?_)
  refine StopD.go ?_
  refine wpList_store_part rfl 3 _ _ rfl (p + 1) 0 (.int .i64 (placeN (A).k (A).n (A).m)) [.int .i64 (placeN (A).k (A).n (A).m)] rfl rfl rfl 3 [] [.int .i64 0] [] kn rfl rfl (by kernel_rfl) (by simp [Value.oneCell']) ?_
  intro wb hp
  have hbn := hbn.grown hp.only hbn.size (fun q hq => by injection hq with hq; omega)
  have kt := kt.grown hp.only (by intro h; injection h with h; omega)
  have kn : Bk wb (p + 1) 3 [.int .i64 (placeN (A).k (A).n (A).m)] := hp.bk
  have ku : Bk wb (p + 2) 29 ([] ++ (dl zeroD ++ [])) := by have := ku.grown hp.only (by intro h; injection h with h; omega); simpa using this
  clear hp
  go_wp2_with (with_reducible refine stop_store 29 _ _ rfl ?_)
  refine StopD.go ?_
  refine wpList_store_part rfl 29 _ _ rfl (p + 2) 0 (.agg (dl (placeA (A).k (A).v)).toArray) (dl (placeA (A).k (A).v)) rfl rfl rfl 29 [] (dl zeroD) [] ku rfl ((dl_len zeroD).trans (zero_ok.len.trans (hpa.len.symm.trans (dl_len _).symm))) (dg_sz hpa) (dl_one _) ?_
  intro w3 hp
  have hbn : Below w2.heap.size w2 w3 := hbn.grown hp.only hbn.size (fun q hq => by injection hq with hq; omega)
  have JTp3 := Lib.hid (kt.grown hp.only (by intro h; injection h with h; omega))
  have JNp3 := Lib.hid (kn.grown hp.only (by intro h; injection h with h; omega))
  have JAp3 : Hid (Bk w3 (p + 2) 29 (dl (placeA (A).k (A).v))) := by show Bk _ _ _ _; have := hp.bk; simpa using this
  clear hp
  clear ku kn kt hle
  clear hpa hpt hp
  have HBB3 := Lib.hid (below_then HBB2.out hbn)
  have H03 := Lib.hid (H02.out.later hbn)
  have H13 := Lib.hid (H12.out.later hbn)
  have H23 := Lib.hid (H22.out.later hbn)
  have H33 := Lib.hid (H32.out.later hbn)
  have H43 := Lib.hid (H42.out.later hbn)
  have HA3 := Lib.hid (HA2.out.later hbn)
  have HB3 := Lib.hid (HB2.out.later hbn)
  have HK3 := Lib.hid (HK2.out.later hbn)
  clear hbn
  go_wp2_with (with_reducible refine wpList_load_bk rfl 35 _ rfl (z + 4) rfl cb 35 H43.out _ Try.underlying35 rfl HB3.out.info ?_)
  refine (thPlace HB3.out).mono ?_
  rintro e w4 ⟨rfl, hbn⟩
  have HBB4 := Lib.hid (below_then HBB3.out hbn)
  have H04 := Lib.hid (H03.out.later hbn)
  have H14 := Lib.hid (H13.out.later hbn)
  have H24 := Lib.hid (H23.out.later hbn)
  have H34 := Lib.hid (H33.out.later hbn)
  have H44 := Lib.hid (H43.out.later hbn)
  have HA4 := Lib.hid (HA3.out.later hbn)
  have HB4 := Lib.hid (HB3.out.later hbn)
  have HK4 := Lib.hid (HK3.out.later hbn)
  have JTp4 := Lib.hid (JTp3.out.later hbn)
  have JNp4 := Lib.hid (JNp3.out.later hbn)
  have JAp4 := Lib.hid (JAp3.out.later hbn)
  clear hbn
  have hpt := placeT_ok (k := (B).k) HB4.out.ht HB4.out.hu
  have hpa := placeA_ok (k := (B).k) HB4.out.hv
  go_wp2_with (with_reducible refine stop_store 29 _ _ rfl ?_)
  refine StopD.go ?_
  obtain ⟨q, hq⟩ : ∃ p, w4.heap.size = p := ⟨_, rfl⟩
  have hbn : Below w4.heap.size w4 (((w4.alloc (.cells #[.int .u8 0, .int .u8 0, .int .u8 0, .int .u8 0, .int .u8 0, .int .u8 0, .int .u8 0, .int .u8 0] 29)).alloc (.cells #[.int .i64 0] 3)).alloc (.cells #[.int .u8 0, .int .u8 0, .int .u8 0, .int .u8 0, .int .u8 0, .int .u8 0, .int .u8 0, .int .u8 0] 29)) := ((below_new w4 _).alloc (by simp) _).alloc (by simp <;> omega) _
  have kt : Bk (((w4.alloc (.cells #[.int .u8 0, .int .u8 0, .int .u8 0, .int .u8 0, .int .u8 0, .int .u8 0, .int .u8 0, .int .u8 0] 29)).alloc (.cells #[.int .i64 0] 3)).alloc (.cells #[.int .u8 0, .int .u8 0, .int .u8 0, .int .u8 0, .int .u8 0, .int .u8 0, .int .u8 0, .int .u8 0] 29)) q 29 ([] ++ (dl zeroD ++ [])) := ((Bk.at_ w4 _ #[.int .u8 0, .int .u8 0, .int .u8 0, .int .u8 0, .int .u8 0, .int .u8 0, .int .u8 0, .int .u8 0] hq rfl).alloc _).alloc _
  have kn : Bk (((w4.alloc (.cells #[.int .u8 0, .int .u8 0, .int .u8 0, .int .u8 0, .int .u8 0, .int .u8 0, .int .u8 0, .int .u8 0] 29)).alloc (.cells #[.int .i64 0] 3)).alloc (.cells #[.int .u8 0, .int .u8 0, .int .u8 0, .int .u8 0, .int .u8 0, .int .u8 0, .int .u8 0, .int .u8 0] 29)) (q + 1) 3 [.int .i64 0] := (Bk.at_ _ _ #[.int .i64 0] (by simp [hq]) rfl).alloc _
  have ku : Bk (((w4.alloc (.cells #[.int .u8 0, .int .u8 0, .int .u8 0, .int .u8 0, .int .u8 0, .int .u8 0, .int .u8 0, .int .u8 0] 29)).alloc (.cells #[.int .i64 0] 3)).alloc (.cells #[.int .u8 0, .int .u8 0, .int .u8 0, .int .u8 0, .int .u8 0, .int .u8 0, .int .u8 0, .int .u8 0] 29)) (q + 2) 29 (dl zeroD) := Bk.at_ _ _ #[.int .u8 0, .int .u8 0, .int .u8 0, .int .u8 0, .int .u8 0, .int .u8 0, .int .u8 0, .int .u8 0] (by simp [hq]) rfl
  have hle : w4.heap.size ≤ q := by omega
  rw [hq]
  refine wpList_store_part rfl 29 _ _ rfl q 0 (.agg (dl (placeT (B).k (B).t (B).u)).toArray) (dl (placeT (B).k (B).t (B).u)) rfl rfl rfl 29 [] (dl zeroD) [] kt rfl ((dl_len zeroD).trans (zero_ok.len.trans (hpt.len.symm.trans (dl_len _).symm))) (dg_sz hpt) (dl_one _) ?_
  intro wa hp
  have hbn := hbn.grown hp.only hbn.size (fun q hq => by injection hq with hq; omega)
  have kt : Bk wa q 29 (dl (placeT (B).k (B).t (B).u)) := by have := hp.bk; simpa using this
  have kn : Bk wa (q + 1) 3 ([] ++ ([.int .i64 0] ++ [])) := kn.grown hp.only (by intro h; injection h with h; omega)
  have ku := ku.grown hp.only (by intro h; injection h with h; omega)
  clear hp
  go_wp2_with (with_reducible refine stop_store 3 _ _ rfl ?_)
  refine StopD.go ?_
  refine wpList_store_part rfl 3 _ _ rfl (q + 1) 0 (.int .i64 (placeN (B).k (B).n (B).m)) [.int .i64 (placeN (B).k (B).n (B).m)] rfl rfl rfl 3 [] [.int .i64 0] [] kn rfl rfl (by kernel_rfl) (by simp [Value.oneCell']) ?_
  intro wb hp
  have hbn := hbn.grown hp.only hbn.size (fun q hq => by injection hq with hq; omega)
  have kt := kt.grown hp.only (by intro h; injection h with h; omega)
  have kn : Bk wb (q + 1) 3 [.int .i64 (placeN (B).k (B).n (B).m)] := hp.bk
  have ku : Bk wb (q + 2) 29 ([] ++ (dl zeroD ++ [])) := by have := ku.grown hp.only (by intro h; injection h with h; omega); simpa using this
  clear hp
  go_wp2_with (with_reducible refine stop_store 29 _ _ rfl ?_)
  refine StopD.go ?_
  refine wpList_store_part rfl 29 _ _ rfl (q + 2) 0 (.agg (dl (placeA (B).k (B).v)).toArray) (dl (placeA (B).k (B).v)) rfl rfl rfl 29 [] (dl zeroD) [] ku rfl ((dl_len zeroD).trans (zero_ok.len.trans (hpa.len.symm.trans (dl_len _).symm))) (dg_sz hpa) (dl_one _) ?_
  intro w5 hp
  have hbn : Below w4.heap.size w4 w5 := hbn.grown hp.only hbn.size (fun q hq => by injection hq with hq; omega)
  have JTq5 := Lib.hid (kt.grown hp.only (by intro h; injection h with h; omega))
  have JNq5 := Lib.hid (kn.grown hp.only (by intro h; injection h with h; omega))
  have JAq5 : Hid (Bk w5 (q + 2) 29 (dl (placeA (B).k (B).v))) := by show Bk _ _ _ _; have := hp.bk; simpa using this
  clear hp
  clear ku kn kt hle
  clear hpa hpt hq
  have HBB5 := Lib.hid (below_then HBB4.out hbn)
  have H05 := Lib.hid (H04.out.later hbn)
  have H15 := Lib.hid (H14.out.later hbn)
  have H25 := Lib.hid (H24.out.later hbn)
  have H35 := Lib.hid (H34.out.later hbn)
  have H45 := Lib.hid (H44.out.later hbn)
  have HA5 := Lib.hid (HA4.out.later hbn)
  have HB5 := Lib.hid (HB4.out.later hbn)
  have HK5 := Lib.hid (HK4.out.later hbn)
  have JTp5 := Lib.hid (JTp4.out.later hbn)
  have JNp5 := Lib.hid (JNp4.out.later hbn)
  have JAp5 := Lib.hid (JAp4.out.later hbn)
  clear hbn
  go_wp2_with (with_reducible refine stop_store 46 _ _ rfl ?_)
  refine StopD.go ?_
  obtain ⟨r, hr⟩ : ∃ r, w5.heap.size = r := ⟨_, rfl⟩
  have hbn : Below w5.heap.size w5 (w5.alloc (.cells #[.nilFunc] 46)) := below_new w5 _
  have kt : Bk (w5.alloc (.cells #[.nilFunc] 46)) r 46 ([] ++ ([.nilFunc] ++ [])) := Bk.at_ w5 _ #[.nilFunc] hr rfl
  have hle : w5.heap.size ≤ r := by omega
  rw [hr]
  refine wpList_store_part rfl 46 _ _ rfl r 0 (.func (.func 82) #[] #[.pointer (some ⟨z, 0, none⟩), .pointer (some ⟨z + 2, 0, none⟩)]) [.func (.func 82) #[] #[.pointer (some ⟨z, 0, none⟩), .pointer (some ⟨z + 2, 0, none⟩)]] rfl rfl rfl 46 [] [.nilFunc] [] kt rfl rfl (by kernel_rfl) (by simp [Value.oneCell']) ?_
  intro w6 hp
  have hbn : Below w5.heap.size w5 w6 := hbn.grown hp.only hbn.size (fun q hq => by injection hq with hq; omega)
  have HT6 : Hid (TwB w6 lo g es z p q r tb ky ca cb A B) := ⟨H05.out.later hbn, H15.out.later hbn, H25.out.later hbn, H35.out.later hbn, H45.out.later hbn, JTp5.out.later hbn, JNp5.out.later hbn, JAp5.out.later hbn, JTq5.out.later hbn, JNq5.out.later hbn, JAq5.out.later hbn, by have := hp.bk; simpa using this, HK5.out.later hbn, HA5.out.later hbn, HB5.out.later hbn, HTO.out, HKO.out, hel⟩
  have HBB6 := Lib.hid (below_then HBB5.out hbn)
  clear hp
  clear kt hle hr
  clear H05 H15 H25 H35 H45 JTp5 JNp5 JAp5 JTq5 JNq5 JAq5 HK5 HA5 HB5
  go_wp2_with (first
    | (with_reducible refine wpList_load_bk rfl 35 _ rfl (z + 3) rfl ca 35 HT6.out.a _ Try.underlying35 rfl HT6.out.ga.info ?_)
    | (with_reducible refine wpList_load_bk rfl 35 _ rfl (z + 4) rfl cb 35 HT6.out.b _ Try.underlying35 rfl HT6.out.gb.info ?_)
    | (with_reducible refine stop_bs 158 7 _ rfl ?_))
  refine StopD.go ?_
  (with_reducible refine wpList_bsliceG ?_ 158 7 _ rfl #[(0, .func (.func 33) #[.agg ca.toArray] #[]), (1, .func (.func 33) #[.agg cb.toArray] #[]), (2, .func (.func 83) #[] #[.pointer (some ⟨z + 3, 0, none⟩), .pointer (some ⟨z + 4, 0, none⟩)]), (3, .func (.func 85) #[] #[.pointer (some ⟨p, 0, none⟩), .pointer (some ⟨z + 1, 0, none⟩), .pointer (some ⟨q, 0, none⟩)]), (4, .func (.func 86) #[] #[.pointer (some ⟨p + 1, 0, none⟩), .pointer (some ⟨q + 1, 0, none⟩), .pointer (some ⟨p + 2, 0, none⟩), .pointer (some ⟨q + 2, 0, none⟩)]), (5, .func (.func 87) #[] #[.pointer (some ⟨z + 3, 0, none⟩), .pointer (some ⟨z + 4, 0, none⟩)]), (6, .func (.func 88) #[] #[.pointer (some ⟨r, 0, none⟩), .pointer (some ⟨z + 3, 0, none⟩), .pointer (some ⟨z + 4, 0, none⟩)])] ?_ 62 (askF z p q r ca cb) (bs_asks _ _ _ _ _ _ _ _ _ _ _ _ _ _ _ _ _ _ _ _ _) ?_)
  · rfl
  · simp [Act.eval, Act.put]
  intro f w7 hf7 hq7 hbn
  have HT7 := Lib.hid (HT6.out.later hbn); have HBB7 := Lib.hid (below_then HBB6.out hbn)
  have HF7 : Hid (Bk w7 f 62 (askF z p q r ca cb)) := hq7
  clear hf7 hq7 hbn
  go_wp2_with fail
  go_loopw [49] (fun iv wr => ∃ k : Nat, k ≤ 7 ∧ iv = .int .i64 k ∧ Hid (∀ j, j < k → (asksT es tb ky A B).getD j 0 = 0) ∧ Hid (Bk wr f 62 (askF z p q r ca cb)) ∧ Hid (TwB wr lo g es z p q r tb ky ca cb A B) ∧ Hid (Below w.heap.size w wr)) (fun iv _ => 7 - (intOf iv).toNat)
  case atStart => exact ⟨0, Nat.zero_le _, rfl, fun j hj => absurd hj (by omega), HF7.out, HT7.out, HBB7.out⟩
  case round =>
    obtain ⟨k, hk, rfl, HJ, HF, HT, HB⟩ := hrel
    have hways : k = 0 ∨ k = 1 ∨ k = 2 ∨ k = 3 ∨ k = 4 ∨ k = 5 ∨ k = 6 ∨ k = 7 := by omega
    rcases hways with rfl | rfl | rfl | rfl | rfl | rfl | rfl | rfl
    ·
      have hcf : wr.cell? ⟨f, 0, none⟩ = some (.func (.func 33) #[.agg ca.toArray] #[]) := by rw [HF.out.cell]; rfl
      obtain ⟨E, hE⟩ : ∃ E, (asksT es tb ky A B).getD 0 0 = E := ⟨_, rfl⟩
      have HC : Hid (Calls Try.prog 33 #[.agg ca.toArray] wr fun e w' => e = .returned (.int .i64 E) ∧ Below wr.heap.size wr w') := by show Calls _ _ _ _ _; rw [← hE]; exact thCheck HT.out.ga
      have HE := Lib.hid hE
      clear hE
      go_wp2_with fail
      refine HC.out.mono ?_
      rintro e w2 ⟨rfl, hbn⟩
      have HT2 := Lib.hid (HT.out.later hbn); have HF2 := Lib.hid (HF.out.later hbn); have HB2 := Lib.hid (below_then HB.out hbn)
      clear hbn hcf
      by_cases h0 : E = 0
      · have h1 : (E != 0) = false := by simp [h0]
        have HJ2 : Hid (∀ j, j < 0 + 1 → (asksT es tb ky A B).getD j 0 = 0) := fun j hj => by
          by_cases hjk : j = 0
          · subst hjk; rw [HE.out]; exact h0
          · exact HJ.out j (by omega)
        clear h0
        go_wp2_with fail
        go_roundw
        case rel => exact ⟨0 + 1, by omega, by go_num, HJ2.out, HF2.out, HT2.out, HB2.out⟩
        case measure => simp [intOf]
      · have h1 : (E != 0) = true := by simpa using h0
        have HFIN : Hid (twT es tb ky A B = E) := by show _ = _; exact firstE_at (k := 0) (by show _ < 7; omega) HJ.out HE.out h0
        clear h0
        go_wp2_with fail
        go_ret
        exact ⟨by rw [HFIN.out]; rfl, HB2.out⟩
    ·
      have hcf : wr.cell? ⟨f, 1, none⟩ = some (.func (.func 33) #[.agg cb.toArray] #[]) := by rw [HF.out.cell]; rfl
      obtain ⟨E, hE⟩ : ∃ E, (asksT es tb ky A B).getD 1 0 = E := ⟨_, rfl⟩
      have HC : Hid (Calls Try.prog 33 #[.agg cb.toArray] wr fun e w' => e = .returned (.int .i64 E) ∧ Below wr.heap.size wr w') := by show Calls _ _ _ _ _; rw [← hE]; exact thCheck HT.out.gb
      have HE := Lib.hid hE
      clear hE
      go_wp2_with fail
      refine HC.out.mono ?_
      rintro e w2 ⟨rfl, hbn⟩
      have HT2 := Lib.hid (HT.out.later hbn); have HF2 := Lib.hid (HF.out.later hbn); have HB2 := Lib.hid (below_then HB.out hbn)
      clear hbn hcf
      by_cases h0 : E = 0
      · have h1 : (E != 0) = false := by simp [h0]
        have HJ2 : Hid (∀ j, j < 1 + 1 → (asksT es tb ky A B).getD j 0 = 0) := fun j hj => by
          by_cases hjk : j = 1
          · subst hjk; rw [HE.out]; exact h0
          · exact HJ.out j (by omega)
        clear h0
        go_wp2_with fail
        go_roundw
        case rel => exact ⟨1 + 1, by omega, by go_num, HJ2.out, HF2.out, HT2.out, HB2.out⟩
        case measure => simp [intOf]
      · have h1 : (E != 0) = true := by simpa using h0
        have HFIN : Hid (twT es tb ky A B = E) := by show _ = _; exact firstE_at (k := 1) (by show _ < 7; omega) HJ.out HE.out h0
        clear h0
        go_wp2_with fail
        go_ret
        exact ⟨by rw [HFIN.out]; rfl, HB2.out⟩
    ·
      have hcf : wr.cell? ⟨f, 2, none⟩ = some (.func (.func 83) #[] #[.pointer (some ⟨z + 3, 0, none⟩), .pointer (some ⟨z + 4, 0, none⟩)]) := by rw [HF.out.cell]; rfl
      obtain ⟨E, hE⟩ : ∃ E, (asksT es tb ky A B).getD 2 0 = E := ⟨_, rfl⟩
      have HC : Hid (Calls Try.prog 83 #[.pointer (some ⟨z + 3, 0, none⟩), .pointer (some ⟨z + 4, 0, none⟩)] wr fun e w' => e = .returned (.int .i64 E) ∧ Below wr.heap.size wr w') := by show Calls _ _ _ _ _; rw [← hE]; exact ask2_any HT.out
      have HE := Lib.hid hE
      clear hE
      go_wp2_with fail
      refine HC.out.mono ?_
      rintro e w2 ⟨rfl, hbn⟩
      have HT2 := Lib.hid (HT.out.later hbn); have HF2 := Lib.hid (HF.out.later hbn); have HB2 := Lib.hid (below_then HB.out hbn)
      clear hbn hcf
      by_cases h0 : E = 0
      · have h1 : (E != 0) = false := by simp [h0]
        have HJ2 : Hid (∀ j, j < 2 + 1 → (asksT es tb ky A B).getD j 0 = 0) := fun j hj => by
          by_cases hjk : j = 2
          · subst hjk; rw [HE.out]; exact h0
          · exact HJ.out j (by omega)
        clear h0
        go_wp2_with fail
        go_roundw
        case rel => exact ⟨2 + 1, by omega, by go_num, HJ2.out, HF2.out, HT2.out, HB2.out⟩
        case measure => simp [intOf]
      · have h1 : (E != 0) = true := by simpa using h0
        have HFIN : Hid (twT es tb ky A B = E) := by show _ = _; exact firstE_at (k := 2) (by show _ < 7; omega) HJ.out HE.out h0
        clear h0
        go_wp2_with fail
        go_ret
        exact ⟨by rw [HFIN.out]; rfl, HB2.out⟩
    ·
      have hcf : wr.cell? ⟨f, 3, none⟩ = some (.func (.func 85) #[] #[.pointer (some ⟨p, 0, none⟩), .pointer (some ⟨z + 1, 0, none⟩), .pointer (some ⟨q, 0, none⟩)]) := by rw [HF.out.cell]; rfl
      obtain ⟨E, hE⟩ : ∃ E, (asksT es tb ky A B).getD 3 0 = E := ⟨_, rfl⟩
      have HC : Hid (Calls Try.prog 85 #[.pointer (some ⟨p, 0, none⟩), .pointer (some ⟨z + 1, 0, none⟩), .pointer (some ⟨q, 0, none⟩)] wr fun e w' => e = .returned (.int .i64 E) ∧ Below wr.heap.size wr w') := by show Calls _ _ _ _ _; rw [← hE]; exact ask3_any HT.out
      have HE := Lib.hid hE
      clear hE
      go_wp2_with fail
      refine HC.out.mono ?_
      rintro e w2 ⟨rfl, hbn⟩
      have HT2 := Lib.hid (HT.out.later hbn); have HF2 := Lib.hid (HF.out.later hbn); have HB2 := Lib.hid (below_then HB.out hbn)
      clear hbn hcf
      by_cases h0 : E = 0
      · have h1 : (E != 0) = false := by simp [h0]
        have HJ2 : Hid (∀ j, j < 3 + 1 → (asksT es tb ky A B).getD j 0 = 0) := fun j hj => by
          by_cases hjk : j = 3
          · subst hjk; rw [HE.out]; exact h0
          · exact HJ.out j (by omega)
        clear h0
        go_wp2_with fail
        go_roundw
        case rel => exact ⟨3 + 1, by omega, by go_num, HJ2.out, HF2.out, HT2.out, HB2.out⟩
        case measure => simp [intOf]
      · have h1 : (E != 0) = true := by simpa using h0
        have HFIN : Hid (twT es tb ky A B = E) := by show _ = _; exact firstE_at (k := 3) (by show _ < 7; omega) HJ.out HE.out h0
        clear h0
        go_wp2_with fail
        go_ret
        exact ⟨by rw [HFIN.out]; rfl, HB2.out⟩
    ·
      have hcf : wr.cell? ⟨f, 4, none⟩ = some (.func (.func 86) #[] #[.pointer (some ⟨p + 1, 0, none⟩), .pointer (some ⟨q + 1, 0, none⟩), .pointer (some ⟨p + 2, 0, none⟩), .pointer (some ⟨q + 2, 0, none⟩)]) := by rw [HF.out.cell]; rfl
      obtain ⟨E, hE⟩ : ∃ E, (asksT es tb ky A B).getD 4 0 = E := ⟨_, rfl⟩
      have HC : Hid (Calls Try.prog 86 #[.pointer (some ⟨p + 1, 0, none⟩), .pointer (some ⟨q + 1, 0, none⟩), .pointer (some ⟨p + 2, 0, none⟩), .pointer (some ⟨q + 2, 0, none⟩)] wr fun e w' => e = .returned (.int .i64 E) ∧ Below wr.heap.size wr w') := by show Calls _ _ _ _ _; rw [← hE]; exact ask4_any HT.out
      have HE := Lib.hid hE
      clear hE
      go_wp2_with fail
      refine HC.out.mono ?_
      rintro e w2 ⟨rfl, hbn⟩
      have HT2 := Lib.hid (HT.out.later hbn); have HF2 := Lib.hid (HF.out.later hbn); have HB2 := Lib.hid (below_then HB.out hbn)
      clear hbn hcf
      by_cases h0 : E = 0
      · have h1 : (E != 0) = false := by simp [h0]
        have HJ2 : Hid (∀ j, j < 4 + 1 → (asksT es tb ky A B).getD j 0 = 0) := fun j hj => by
          by_cases hjk : j = 4
          · subst hjk; rw [HE.out]; exact h0
          · exact HJ.out j (by omega)
        clear h0
        go_wp2_with fail
        go_roundw
        case rel => exact ⟨4 + 1, by omega, by go_num, HJ2.out, HF2.out, HT2.out, HB2.out⟩
        case measure => simp [intOf]
      · have h1 : (E != 0) = true := by simpa using h0
        have HFIN : Hid (twT es tb ky A B = E) := by show _ = _; exact firstE_at (k := 4) (by show _ < 7; omega) HJ.out HE.out h0
        clear h0
        go_wp2_with fail
        go_ret
        exact ⟨by rw [HFIN.out]; rfl, HB2.out⟩
    ·
      have hcf : wr.cell? ⟨f, 5, none⟩ = some (.func (.func 87) #[] #[.pointer (some ⟨z + 3, 0, none⟩), .pointer (some ⟨z + 4, 0, none⟩)]) := by rw [HF.out.cell]; rfl
      obtain ⟨E, hE⟩ : ∃ E, (asksT es tb ky A B).getD 5 0 = E := ⟨_, rfl⟩
      have HC : Hid (Calls Try.prog 87 #[.pointer (some ⟨z + 3, 0, none⟩), .pointer (some ⟨z + 4, 0, none⟩)] wr fun e w' => e = .returned (.int .i64 E) ∧ Below wr.heap.size wr w') := by show Calls _ _ _ _ _; rw [← hE]; exact ask5_any HT.out
      have HE := Lib.hid hE
      clear hE
      go_wp2_with fail
      refine HC.out.mono ?_
      rintro e w2 ⟨rfl, hbn⟩
      have HT2 := Lib.hid (HT.out.later hbn); have HF2 := Lib.hid (HF.out.later hbn); have HB2 := Lib.hid (below_then HB.out hbn)
      clear hbn hcf
      by_cases h0 : E = 0
      · have h1 : (E != 0) = false := by simp [h0]
        have HJ2 : Hid (∀ j, j < 5 + 1 → (asksT es tb ky A B).getD j 0 = 0) := fun j hj => by
          by_cases hjk : j = 5
          · subst hjk; rw [HE.out]; exact h0
          · exact HJ.out j (by omega)
        clear h0
        go_wp2_with fail
        go_roundw
        case rel => exact ⟨5 + 1, by omega, by go_num, HJ2.out, HF2.out, HT2.out, HB2.out⟩
        case measure => simp [intOf]
      · have h1 : (E != 0) = true := by simpa using h0
        have HFIN : Hid (twT es tb ky A B = E) := by show _ = _; exact firstE_at (k := 5) (by show _ < 7; omega) HJ.out HE.out h0
        clear h0
        go_wp2_with fail
        go_ret
        exact ⟨by rw [HFIN.out]; rfl, HB2.out⟩
    ·
      have hcf : wr.cell? ⟨f, 6, none⟩ = some (.func (.func 88) #[] #[.pointer (some ⟨r, 0, none⟩), .pointer (some ⟨z + 3, 0, none⟩), .pointer (some ⟨z + 4, 0, none⟩)]) := by rw [HF.out.cell]; rfl
      obtain ⟨E, hE⟩ : ∃ E, (asksT es tb ky A B).getD 6 0 = E := ⟨_, rfl⟩
      have HC : Hid (Calls Try.prog 88 #[.pointer (some ⟨r, 0, none⟩), .pointer (some ⟨z + 3, 0, none⟩), .pointer (some ⟨z + 4, 0, none⟩)] wr fun e w' => e = .returned (.int .i64 E) ∧ Below wr.heap.size wr w') := by show Calls _ _ _ _ _; rw [← hE]; exact ask6_any HT.out
      have HE := Lib.hid hE
      clear hE
      go_wp2_with fail
      refine HC.out.mono ?_
      rintro e w2 ⟨rfl, hbn⟩
      have HT2 := Lib.hid (HT.out.later hbn); have HF2 := Lib.hid (HF.out.later hbn); have HB2 := Lib.hid (below_then HB.out hbn)
      clear hbn hcf
      by_cases h0 : E = 0
      · have h1 : (E != 0) = false := by simp [h0]
        have HJ2 : Hid (∀ j, j < 6 + 1 → (asksT es tb ky A B).getD j 0 = 0) := fun j hj => by
          by_cases hjk : j = 6
          · subst hjk; rw [HE.out]; exact h0
          · exact HJ.out j (by omega)
        clear h0
        go_wp2_with fail
        go_roundw
        case rel => exact ⟨6 + 1, by omega, by go_num, HJ2.out, HF2.out, HT2.out, HB2.out⟩
        case measure => simp [intOf]
      · have h1 : (E != 0) = true := by simpa using h0
        have HFIN : Hid (twT es tb ky A B = E) := by show _ = _; exact firstE_at (k := 6) (by show _ < 7; omega) HJ.out HE.out h0
        clear h0
        go_wp2_with fail
        go_ret
        exact ⟨by rw [HFIN.out]; rfl, HB2.out⟩
    · have HFIN : Hid (twT es tb ky A B = 0) := by show _ = _; rw [twT, firstE_drop HJ.out]; rfl
      go_wp2_with fail
      go_ret
      exact ⟨by rw [HFIN.out]; rfl, HB.out⟩
end Go.Proofs.Ythibihjblodfmaa
