/- What any two things show: the walk of PunishTells. -/
import Derived.Test.YthibihjblodfmaaU7
import Derived.Test.YthibihjblodfmaaP4
import Derived.Test.YthibihjblodfmaaS10
import Derived.Test.YthibihjblodfmaaRL
namespace Go.Proofs.Ythibihjblodfmaa
set_option linter.unusedSimpArgs false
set_option linter.unusedVariables false
open Go.RowKit Go.Maps

def z30 : List Value := thC 0 0 0 zeroD zeroD zeroD (.slice none 0 0) (.slice none 0 0) (.slice none 0 0)
structure RCell (w : World) (g : Nat) (A B : Option Addr) (N C M D : Nat) : Prop where
  c18 : w.cell? ⟨g, 18, none⟩ = some (.slice A N C)
  c19 : w.cell? ⟨g, 19, none⟩ = some (.slice B M D)
theorem rcells {w : World} {g : Nat} {pre : List Value} {A B : Option Addr} {N C M D : Nat} {o : Bool} (hl : pre.length = 18) (h : Bk w g 25 ((pre ++ [.slice A N C]) ++ ([.slice B M D] ++ [.bool o]))) : RCell w g A B N C M D := by
  refine ⟨?_, ?_⟩
  · rw [h.cell, List.getElem?_append_left (by simp; omega), List.getElem?_append_right (by omega), hl]; rfl
  · rw [h.cell, List.getElem?_append_right (by simp; omega)]; simp [hl]
/-- What stands while PunishTells goes on. -/
structure PT (w wk : World) (z lo g gx gy : Nat) (ca cb cx cy : List Value) (dw : List Int) (y0 y1 y2 : Int) (A B : RtT) (TA TB : Tg) (es : List Ent) : Prop where
  p : Bk wk z 25 ca
  q : Bk wk (z + 1) 25 cb
  d : Bk wk (z + 2) 22 (dl dw)
  y : Bk wk (z + 3) 48 [.int .u8 y0, .int .u8 y1, .int .u8 y2]
  ra : RthK w wk ca A
  rb : RthK w wk cb B
  bk : BookAt wk lo g es
  x : Bk wk gx 35 cx
  yy : Bk wk gy 35 cy
  tx : ThK w wk cx TA
  ty : ThK w wk cy TB
  hb : Below w.heap.size w wk
  lh : lo ≤ wk.heap.size
  wl : w.heap.size ≤ lo
  ne : gx ≠ gy
  zl : lo ≤ gx ∧ lo ≤ gy
section
variable {w wk wn : World} {z lo g gx gy : Nat} {ca cb cx cy : List Value} {dw : List Int} {y0 y1 y2 : Int} {A B : RtT} {TA TB : Tg} {es : List Ent}
theorem PT.later (h : PT w wk z lo g gx gy ca cb cx cy dw y0 y1 y2 A B TA TB es) (hb : Below wk.heap.size wk wn) : PT w wn z lo g gx gy ca cb cx cy dw y0 y1 y2 A B TA TB es :=
  ⟨h.p.later hb, h.q.later hb, h.d.later hb, h.y.later hb, h.ra.later hb, h.rb.later hb, h.bk.later hb, h.x.later hb, h.yy.later hb, h.tx.later hb, h.ty.later hb, below_then h.hb hb, Nat.le_trans h.lh hb.size, h.wl, h.ne, h.zl⟩
theorem PT.sign (h : PT w wk z lo g gx gy ca cb cx cy dw y0 y1 y2 A B TA TB es) {es' : List Ent} (hk : Keeps wk wn) (hb : Below lo wk wn) (hbk : BookAt wn lo g es') : PT w wn z lo g gx gy ca cb cx cy dw y0 y1 y2 A B TA TB es' :=
  ⟨h.p.keeps hk (by decide) (by decide), h.q.keeps hk (by decide) (by decide), h.d.keeps hk (by decide) (by decide), h.y.keeps hk (by decide) (by decide), h.ra.keeps hk, h.rb.keeps hk, hbk, h.x.keeps hk (by decide) (by decide), h.yy.keeps hk (by decide) (by decide), h.tx.keeps hk, h.ty.keeps hk, h.hb.trans (hb.mono h.wl), Nat.le_trans h.lh hb.size, h.wl, h.ne, h.zl⟩
theorem PT.putX (h : PT w wk z lo g gx gy ca cb cx cy dw y0 y1 y2 A B TA TB es) {cx' : List Value} {TA' : Tg} (hp : Put wk wn gx 35 cx') (ht : ThK w wk cx' TA') : PT w wn z lo g gx gy ca cb cx' cy dw y0 y1 y2 A B TA' TB es := by
  have hx := h.x
  have n1 : z ≠ gx := h.p.ne_ hx (by decide)
  have n2 : z + 1 ≠ gx := h.q.ne_ hx (by decide)
  have n3 : z + 2 ≠ gx := h.d.ne_ hx (by decide)
  have n4 : z + 3 ≠ gx := h.y.ne_ hx (by decide)
  have n5 := h.ne
  exact ⟨h.p.grown hp.only (by intro e; injection e with e; omega), h.q.grown hp.only (by intro e; injection e with e; omega), h.d.grown hp.only (by intro e; injection e with e; omega), h.y.grown hp.only (by intro e; injection e with e; omega), h.ra.grown hp.only hx (by decide), h.rb.grown hp.only hx (by decide), h.bk.put hp hx (by decide) (by decide), hp.bk, h.yy.grown hp.only (by intro e; injection e with e; omega), ht.grown hp.only hx (by decide), h.ty.grown hp.only hx (by decide), below_only h.hb hp.only h.hb.size (Nat.le_trans h.wl h.zl.1), Nat.le_trans h.lh hp.only.size, h.wl, h.ne, h.zl⟩
theorem PT.putY (h : PT w wk z lo g gx gy ca cb cx cy dw y0 y1 y2 A B TA TB es) {cy' : List Value} {TB' : Tg} (hp : Put wk wn gy 35 cy') (ht : ThK w wk cy' TB') : PT w wn z lo g gx gy ca cb cx cy' dw y0 y1 y2 A B TA TB' es := by
  have hx := h.yy
  have n1 : z ≠ gy := h.p.ne_ hx (by decide)
  have n2 : z + 1 ≠ gy := h.q.ne_ hx (by decide)
  have n3 : z + 2 ≠ gy := h.d.ne_ hx (by decide)
  have n4 : z + 3 ≠ gy := h.y.ne_ hx (by decide)
  have n5 := h.ne
  exact ⟨h.p.grown hp.only (by intro e; injection e with e; omega), h.q.grown hp.only (by intro e; injection e with e; omega), h.d.grown hp.only (by intro e; injection e with e; omega), h.y.grown hp.only (by intro e; injection e with e; omega), h.ra.grown hp.only hx (by decide), h.rb.grown hp.only hx (by decide), h.bk.put hp hx (by decide) (by decide), h.x.grown hp.only (by intro e; injection e with e; omega), hp.bk, h.tx.grown hp.only hx (by decide), ht.grown hp.only hx (by decide), below_only h.hb hp.only h.hb.size (Nat.le_trans h.wl h.zl.2), Nat.le_trans h.lh hp.only.size, h.wl, h.ne, h.zl⟩
theorem PT.putP (h : PT w wk z lo g gx gy ca cb cx cy dw y0 y1 y2 A B TA TB es) {ca' : List Value} {A' : RtT} (hz : w.heap.size ≤ z) (hp : Put wk wn z 25 ca') (ht : RthK w wk ca' A') : PT w wn z lo g gx gy ca' cb cx cy dw y0 y1 y2 A' B TA TB es := by
  have hx := h.p
  have n1 : gx ≠ z := h.x.ne_ hx (by decide)
  have n2 : gy ≠ z := h.yy.ne_ hx (by decide)
  exact ⟨hp.bk, h.q.grown hp.only (by intro e; injection e with e; omega), h.d.grown hp.only (by intro e; injection e with e; omega), h.y.grown hp.only (by intro e; injection e with e; omega), ht.grown hp.only hx (by decide), h.rb.grown hp.only hx (by decide), h.bk.put hp hx (by decide) (by decide), h.x.grown hp.only (by intro e; injection e with e; omega), h.yy.grown hp.only (by intro e; injection e with e; omega), h.tx.grown hp.only hx (by decide), h.ty.grown hp.only hx (by decide), below_only h.hb hp.only h.hb.size hz, Nat.le_trans h.lh hp.only.size, h.wl, h.ne, h.zl⟩
theorem PT.putQ (h : PT w wk z lo g gx gy ca cb cx cy dw y0 y1 y2 A B TA TB es) {cb' : List Value} {B' : RtT} (hz : w.heap.size ≤ z) (hp : Put wk wn (z + 1) 25 cb') (ht : RthK w wk cb' B') : PT w wn z lo g gx gy ca cb' cx cy dw y0 y1 y2 A B' TA TB es := by
  have hx := h.q
  have n1 : gx ≠ z + 1 := h.x.ne_ hx (by decide)
  have n2 : gy ≠ z + 1 := h.yy.ne_ hx (by decide)
  exact ⟨h.p.grown hp.only (by intro e; injection e with e; omega), hp.bk, h.d.grown hp.only (by intro e; injection e with e; omega), h.y.grown hp.only (by intro e; injection e with e; omega), h.ra.grown hp.only hx (by decide), ht.grown hp.only hx (by decide), h.bk.put hp hx (by decide) (by decide), h.x.grown hp.only (by intro e; injection e with e; omega), h.yy.grown hp.only (by intro e; injection e with e; omega), h.tx.grown hp.only hx (by decide), h.ty.grown hp.only hx (by decide), below_only h.hb hp.only h.hb.size (by omega), Nat.le_trans h.lh hp.only.size, h.wl, h.ne, h.zl⟩
end
theorem RthK.mem {w1 w : World} {cs : List Value} {R : RtT} (h : RthK w1 w cs R) : ∀ (w' : World) (g : Nat), Bk w' g 25 cs → w'.rangeAt g 1 (dl R.t) ∧ w'.cell? ⟨g, 9, none⟩ = some (.int .i64 R.n) := by
  obtain ⟨⟨A, B, N, C, M, D, rfl, h2, h3⟩, a, b, _⟩ := h
  exact fun w' g hb => ⟨(rt_mem a b hb).r1, (rt_mem a b hb).c9⟩
theorem eqSelf {t : List Int} (h : DgOk t) (W : World) : (Op.equalIn 10000 22 (.agg (dl t).toArray) (.agg (dl t).toArray)).run Try.prog W = .ok true W := by rw [rdg_eq_run t t h h W, eqL_self]
/-- The same, with the key's box and both signatures' cells. -/
structure PU (w wk : World) (z lo g gx gy gk : Nat) (ca cb cx cy : List Value) (dw : List Int) (y0 y1 y2 : Int) (A B : RtT) (TA TB : Tg) (es : List Ent) (kd : List Int) (sA tA : Option Addr) (sN sC tN tC : Nat) : Prop where
  pt : PT w wk z lo g gx gy ca cb cx cy dw y0 y1 y2 A B TA TB es
  ky : Bk wk gk 29 (dl kd)
  sx : GSl w wk sA sN sC TA.ss
  sy : GSl w wk tA tN tC TB.ss
  cx : ∀ w', Bk w' gx 35 cx → w'.cell? ⟨gx, 29, none⟩ = some (.slice sA sN sC)
  cy : ∀ w', Bk w' gy 35 cy → w'.cell? ⟨gy, 29, none⟩ = some (.slice tA tN tC)
section
variable {w wk wn : World} {z lo g gx gy gk : Nat} {ca cb cx cy : List Value} {dw kd : List Int} {y0 y1 y2 : Int} {A B : RtT} {TA TB : Tg} {es : List Ent} {sA tA : Option Addr} {sN sC tN tC : Nat}
theorem PU.later (h : PU w wk z lo g gx gy gk ca cb cx cy dw y0 y1 y2 A B TA TB es kd sA tA sN sC tN tC) (hb : Below wk.heap.size wk wn) : PU w wn z lo g gx gy gk ca cb cx cy dw y0 y1 y2 A B TA TB es kd sA tA sN sC tN tC :=
  ⟨h.pt.later hb, h.ky.later hb, h.sx.later hb, h.sy.later hb, h.cx, h.cy⟩
theorem PU.putP (h : PU w wk z lo g gx gy gk ca cb cx cy dw y0 y1 y2 A B TA TB es kd sA tA sN sC tN tC) {ca' : List Value} {A' : RtT} (hz : w.heap.size ≤ z) (hp : Put wk wn z 25 ca') (ht : RthK w wk ca' A') : PU w wn z lo g gx gy gk ca' cb cx cy dw y0 y1 y2 A' B TA TB es kd sA tA sN sC tN tC :=
  have n1 : gk ≠ z := h.ky.ne_ h.pt.p (by decide)
  ⟨h.pt.putP hz hp ht, h.ky.grown hp.only (by intro e; injection e with e; omega), h.sx.grown hp.only h.pt.p (by decide), h.sy.grown hp.only h.pt.p (by decide), h.cx, h.cy⟩
theorem PU.putQ (h : PU w wk z lo g gx gy gk ca cb cx cy dw y0 y1 y2 A B TA TB es kd sA tA sN sC tN tC) {cb' : List Value} {B' : RtT} (hz : w.heap.size ≤ z) (hp : Put wk wn (z + 1) 25 cb') (ht : RthK w wk cb' B') : PU w wn z lo g gx gy gk ca cb' cx cy dw y0 y1 y2 A B' TA TB es kd sA tA sN sC tN tC :=
  have n1 : gk ≠ z + 1 := h.ky.ne_ h.pt.q (by decide)
  ⟨h.pt.putQ hz hp ht, h.ky.grown hp.only (by intro e; injection e with e; omega), h.sx.grown hp.only h.pt.q (by decide), h.sy.grown hp.only h.pt.q (by decide), h.cx, h.cy⟩
end
theorem three_of {w : World} {g : Nat} {t : TypeId} {a b c : Value} (h : Bk w g t [a, b, c]) : w.cell? ⟨g, 0, none⟩ = some a ∧ w.cell? ⟨g, 1, none⟩ = some b ∧ w.cell? ⟨g, 2, none⟩ = some c := ⟨by rw [h.cell]; rfl, by rw [h.cell]; rfl, by rw [h.cell]; rfl⟩
theorem toT_sig (R : RtT) (s : List Int) : { toT R with ss := s } = toT { R with ss := s } := by unfold toT; split <;> rfl
set_option maxRecDepth 20000 in
set_option maxHeartbeats 16000000 in
theorem ptells_any (w : World) (ca cb : List Value) (A B : RtT) (dw : List Int) (hdw : DgOk dw) (y0 y1 y2 : Int) (hy : (0 ≤ y0 ∧ y0 < 256) ∧ (0 ≤ y1 ∧ y1 < 256) ∧ (0 ≤ y2 ∧ y2 < 256)) (ha : RthK w w ca A) (hb : RthK w w cb B)
    (hla : A.bs.length ≤ 140737488355328 ∧ A.ss.length ≤ 140737488355328) (hlb : B.bs.length ≤ 140737488355328 ∧ B.ss.length ≤ 140737488355328) :
    Calls Try.prog 4 #[.agg ca.toArray, .agg cb.toArray, .agg (dl dw).toArray, .agg #[.int .u8 y0, .int .u8 y1, .int .u8 y2]] w fun e w' => e = .returned (.bool true) ∧ Below w.heap.size w w' := by
  obtain ⟨X1, hX1⟩ : ∃ X, ca.toArray = X := ⟨_, rfl⟩
  obtain ⟨X2, hX2⟩ : ∃ X, cb.toArray = X := ⟨_, rfl⟩
  obtain ⟨X3, hX3⟩ : ∃ X, (dl dw).toArray = X := ⟨_, rfl⟩
  obtain ⟨z, hz⟩ : ∃ z, w.heap.size = z := ⟨_, rfl⟩
  obtain ⟨w1, hw1⟩ : ∃ w1, (((w.alloc (.cells X1 25)).alloc (.cells X2 25)).alloc (.cells X3 22)).alloc (.cells #[.int .u8 y0, .int .u8 y1, .int .u8 y2] 48) = w1 := ⟨_, rfl⟩
  have hb1 : Below w.heap.size w w1 := hw1 ▸ (((below_new w _).alloc (by simp) _).alloc (by simp <;> omega) _).alloc (by simp <;> omega) _
  have k1 : Bk w1 z 25 ca := hw1 ▸ (((Bk.at_ w _ X1 hz (by rw [← hX1])).alloc _).alloc _).alloc _
  have k2 : Bk w1 (z + 1) 25 cb := hw1 ▸ ((Bk.at_ _ _ X2 (by simp [hz]) (by rw [← hX2])).alloc _).alloc _
  have k3 : Bk w1 (z + 2) 22 (dl dw) := hw1 ▸ (Bk.at_ _ _ X3 (by simp [hz]) (by rw [← hX3])).alloc _
  have k4 : Bk w1 (z + 3) 48 [.int .u8 y0, .int .u8 y1, .int .u8 y2] := hw1 ▸ Bk.at_ _ _ #[.int .u8 y0, .int .u8 y1, .int .u8 y2] (by simp [hz]) rfl
  have HW := Lib.hid hw1; have HBB1 := Lib.hid hb1; have HP1 := Lib.hid k1; have HQ1 := Lib.hid k2; have HD1 := Lib.hid k3; have HY1 := Lib.hid k4; have HRA1 := Lib.hid (ha.later hb1); have HRB1 := Lib.hid (hb.later hb1)
  have HDW := Lib.hid hdw; have HYY := Lib.hid hy
  obtain ⟨prA, aA, bA, nA, cA, mA, dA, hca, hpa, ga1, ga2, hsA⟩ := ha.sig
  obtain ⟨prB, aB, bB, nB, cB, mB, dB, hcb, hpb, gb1, gb2, hsB⟩ := hb.sig
  have HCA : Hid (ca = (prA ++ [.slice aA nA cA]) ++ ([.slice bA mA dA] ++ [.bool A.o])) := hca
  have HCB : Hid (cb = (prB ++ [.slice aB nB cB]) ++ ([.slice bB mB dB] ++ [.bool B.o])) := hcb
  have HPA := Lib.hid hpa; have HPB := Lib.hid hpb; have HSA := Lib.hid hsA; have HSB := Lib.hid hsB
  have l1 := ga1.len; have l2 := ga2.len; have l3 := gb1.len; have l4 := gb2.len
  rw [l1, l2] at hla
  rw [l3, l4] at hlb
  have HLA := Lib.hid (And.intro l1 l2); have HLB := Lib.hid (And.intro l3 l4)
  have HRC : Hid (∀ w', Bk w' z 25 ca → RCell w' z aA bA nA cA mA dA) := fun w' h' => by rw [hca] at h'; exact rcells hpa h'
  have HRD : Hid (∀ w', Bk w' (z + 1) 25 cb → RCell w' (z + 1) aB bB nB cB mB dB) := fun w' h' => by rw [hcb] at h'; exact rcells hpb h'
  have s1 : IntKind.i64.wrap ((nA : Int) + mA) = (nA : Int) + mA := IntWalk.i64_in _ (by omega)
  have s2 : IntKind.i64.wrap ((nB : Int) + mB) = (nB : Int) + mB := IntWalk.i64_in _ (by omega)
  rw [hX1, hX2, hX3]
  clear hX1 hX2 hX3 hw1 hb1 k1 k2 k3 k4 ha hb hdw hy hca hcb hpa hpb ga1 ga2 gb1 gb2 hsA hsB l1 l2 l3 l4
  go_enter Try.func4, Try.ntmps4
  go_upto_region 1 with fail
  rw [HW.out]
  go_wp2_with fail
  refine (pknown_any w1).mono ?_
  rintro e w2 ⟨rfl, hbn⟩
  have HBB2 := Lib.hid (below_then HBB1.out hbn)
  have HP2 := Lib.hid (HP1.out.later hbn)
  have HQ2 := Lib.hid (HQ1.out.later hbn)
  have HD2 := Lib.hid (HD1.out.later hbn)
  have HY2 := Lib.hid (HY1.out.later hbn)
  have HRA2 := Lib.hid (HRA1.out.later hbn)
  have HRB2 := Lib.hid (HRB1.out.later hbn)
  clear hbn
  have ra := HRC.out w2 HP2.out
  have rb := HRD.out w2 HQ2.out
  have a18 := ra.c18; have a19 := ra.c19; have b18 := rb.c18; have b19 := rb.c19
  clear ra rb
  by_cases t1 : 5000 < nA + mA
  · have t2 : decide ((5000 : Int) < (nA : Int) + mA) = true := by simp; omega
    go_wp2_with fail
    refine (pknown_any w2).mono ?_
    rintro e w3 ⟨rfl, hbn⟩
    have HBB3 := Lib.hid (below_then HBB2.out hbn)
    clear hbn
    go_wp2_with fail
    go_ret
    exact ⟨rfl, HBB3.out⟩
  · have t2 : decide ((5000 : Int) < (nA : Int) + mA) = false := by simp; omega
    by_cases t3 : 5000 < nB + mB
    · have t4 : decide ((5000 : Int) < (nB : Int) + mB) = true := by simp; omega
      go_wp2_with fail
      refine (pknown_any w2).mono ?_
      rintro e w3 ⟨rfl, hbn⟩
      have HBB3 := Lib.hid (below_then HBB2.out hbn)
      clear hbn
      go_wp2_with fail
      go_ret
      exact ⟨rfl, HBB3.out⟩
    · have t4 : decide ((5000 : Int) < (nB : Int) + mB) = false := by simp; omega
      go_wp2_with fail
      refine (newBook_any w2).mono ?_
      rintro e w3 ⟨⟨g, rfl, hbk⟩, hbn⟩
      have HBK3 := Lib.hid hbk
      obtain ⟨lo, hlo⟩ : ∃ lo, w2.heap.size = lo := ⟨_, rfl⟩
      rw [hlo] at HBK3
      have HLO : Hid (w.heap.size ≤ lo) := by show _ ≤ _; rw [← hlo]; exact HBB2.out.size
      have HLH3 : Hid (lo ≤ w3.heap.size) := by show _ ≤ _; rw [← hlo]; exact hbn.size
      clear hbk hlo
      have HBB3 := Lib.hid (below_then HBB2.out hbn)
      have HP3 := Lib.hid (HP2.out.later hbn)
      have HQ3 := Lib.hid (HQ2.out.later hbn)
      have HD3 := Lib.hid (HD2.out.later hbn)
      have HY3 := Lib.hid (HY2.out.later hbn)
      have HRA3 := Lib.hid (HRA2.out.later hbn)
      have HRB3 := Lib.hid (HRB2.out.later hbn)
      clear hbn
      clear a18 a19 b18 b19
      go_wp2_with fail
      go_cut [10, 11] (fun p q wx => ∃ (gx gy : Nat) (cx cy : List Value), p = .pointer (some ⟨gx, 0, none⟩) ∧ q = .pointer (some ⟨gy, 0, none⟩) ∧ Hid (Bk wx gx 35 cx) ∧ Hid (Bk wx gy 35 cy) ∧ Hid (ThK w wx cx (toT A)) ∧ Hid (ThK w wx cy (toT B)) ∧ Hid (gx ≠ gy) ∧ Hid (w3.heap.size ≤ gx ∧ w3.heap.size ≤ gy) ∧ Hid (Below w3.heap.size w3 wx))
      case first => as_aux_lemma =>
        refine wp_region_held_drew (S := fun w' => Bk w' z 25 ca ∧ Bk w' (z + 1) 25 cb) (by kernel_rfl) ⟨Bk.drew HP3.out, Bk.drew HQ3.out⟩ (fun hHeld => ?_)
        have hbn := below_draws w3 w3.heap.size 1
        have HZL : Hid (z + 1 < w3.heap.size) := HQ3.out.lt
        have HPs : Hid (Bk w3.drew z 25 ca) := Bk.drew HP3.out
        have HQs : Hid (Bk w3.drew (z + 1) 25 cb) := Bk.drew HQ3.out
        have HRAs : Hid (RthK w w3.drew ca A) := HRA3.out.later hbn
        have HRBs : Hid (RthK w w3.drew cb B) := HRB3.out.later hbn
        have HNs : Hid (Below w3.heap.size w3 w3.drew) := hbn
        have HMs : Hid (Below w.heap.size w w3.drew) := below_then HBB3.out hbn
        clear hbn
        obtain ⟨ws, hws⟩ : ∃ ws, w3.drew = ws := ⟨_, rfl⟩
        rw [hws] at HPs HQs HRAs HRBs HNs HMs hHeld ⊢
        clear hws
        refine wpAnyH_take (i := 0) (v := .agg (List.toArray (ca))) rfl (by kernel_rfl) (by kernel_rfl) (by kernel_rfl) (fun _ _ _ h => h) (yieldsIf_load_mid (by rfl) _ _ rfl _ _ rfl (ca) _ (fun w hSw => (Bk.range (pre := []) (post := []) (by simpa using hSw.1) rfl)) Try.underlying25 rfl (HRAs.out.info)) (by assumption) ?_
        try simp only [Act.put, List.setIfInBounds_toArray, List.set_cons_zero, List.set_cons_succ, List.getElem_toArray, List.getElem_cons_zero, List.getElem_cons_succ]
        refine wpAnyH_take (i := 2) (v := .agg (List.toArray (cb))) rfl (by kernel_rfl) (by kernel_rfl) (by kernel_rfl) (fun _ _ _ h => h) (yieldsIf_load_mid (by rfl) _ _ rfl _ _ rfl (cb) _ (fun w hSw => (Bk.range (pre := []) (post := []) (by simpa using hSw.2) rfl)) Try.underlying25 rfl (HRBs.out.info)) (by assumption) ?_
        try simp only [Act.put, List.setIfInBounds_toArray, List.set_cons_zero, List.set_cons_succ, List.getElem_toArray, List.getElem_cons_zero, List.getElem_cons_succ]
        refine wpAnyH_ready (rs := [1, 4, 5]) (by kernel_rfl) (by simp) ?_
        refine AllReadyH.cons rfl (fun K hK => ?_) ?_
        ·
          go_simp
          go_at_call 17
          refine (ofK HRAs.out HMs.out).mono ?_
          rintro e wsp ⟨⟨cx, rfl, hx⟩, hbn⟩
          have HXsp := Lib.hid hx
          clear hx
          have HPsp := Lib.hid (HPs.out.later hbn)
          have HQsp := Lib.hid (HQs.out.later hbn)
          have HRAsp := Lib.hid (HRAs.out.later hbn)
          have HRBsp := Lib.hid (HRBs.out.later hbn)
          have HNsp : Hid (Below w3.heap.size w3 wsp) := HNs.out.trans (hbn.mono HNs.out.size)
          have HMsp : Hid (Below w.heap.size w wsp) := below_then HMs.out hbn
          clear hbn
          refine hK.out _ _ ⟨HPsp.out, HQsp.out⟩ (fun hHeld => ?_)
          clear hK K
          try simp only [Act.put, List.setIfInBounds_toArray, List.set_cons_zero, List.set_cons_succ, List.getElem_toArray, List.getElem_cons_zero, List.getElem_cons_succ]
          refine wpAnyH_ready (rs := [3, 4, 5]) (by kernel_rfl) (by simp) ?_
          refine AllReadyH.cons rfl (fun K hK => ?_) ?_
          ·
            go_simp
            go_at_call 17
            refine (ofK HRBsp.out HMsp.out).mono ?_
            rintro e wspq ⟨⟨cy, rfl, hx⟩, hbn⟩
            have HYspq := Lib.hid hx
            clear hx
            have HPspq := Lib.hid (HPsp.out.later hbn)
            have HQspq := Lib.hid (HQsp.out.later hbn)
            have HRAspq := Lib.hid (HRAsp.out.later hbn)
            have HRBspq := Lib.hid (HRBsp.out.later hbn)
            have HXspq := Lib.hid (HXsp.out.later hbn)
            have HNspq : Hid (Below w3.heap.size w3 wspq) := HNsp.out.trans (hbn.mono HNsp.out.size)
            have HMspq : Hid (Below w.heap.size w wspq) := below_then HMsp.out hbn
            clear hbn
            refine hK.out _ _ ⟨HPspq.out, HQspq.out⟩ (fun hHeld => ?_)
            clear hK K
            try simp only [Act.put, List.setIfInBounds_toArray, List.set_cons_zero, List.set_cons_succ, List.getElem_toArray, List.getElem_cons_zero, List.getElem_cons_succ]
            refine wpAnyH_ready (rs := [4, 5]) (by kernel_rfl) (by simp) ?_
            refine AllReadyH.cons rfl (fun K hK => ?_) ?_
            ·
              go_simp
              obtain ⟨gx, hgx⟩ : ∃ g, wspq.heap.size = g := ⟨_, rfl⟩
              obtain ⟨wspqx, hwspqx⟩ : ∃ w', wspq.alloc (.cells #[.int .i64 0, .int .u8 0, .int .u8 0, .int .u8 0, .int .u8 0, .int .u8 0, .int .u8 0, .int .u8 0, .int .u8 0, .int .i64 0, .slice none 0 0, .int .u8 0, .int .u8 0, .int .u8 0, .int .u8 0, .int .u8 0, .int .u8 0, .int .u8 0, .int .u8 0, .int .i64 0, .int .u8 0, .int .u8 0, .int .u8 0, .int .u8 0, .int .u8 0, .int .u8 0, .int .u8 0, .int .u8 0, .slice none 0 0, .slice none 0 0] 35) = w' := ⟨_, rfl⟩
              have hbn : Below wspq.heap.size wspq wspqx := hwspqx ▸ below_new wspq _
              have HGxspqx : Hid (Bk wspqx gx 35 z30) := by show Bk _ _ _ _; rw [← hwspqx]; exact Bk.at_ wspq _ _ hgx rfl
              have HLx : Hid (w3.heap.size ≤ gx) := by show _ ≤ _; rw [← hgx]; exact HNspq.out.size
              rw [hgx, hwspqx]
              clear hgx hwspqx
              have HPspqx := Lib.hid (HPspq.out.later hbn)
              have HQspqx := Lib.hid (HQspq.out.later hbn)
              have HRAspqx := Lib.hid (HRAspq.out.later hbn)
              have HRBspqx := Lib.hid (HRBspq.out.later hbn)
              have HXspqx := Lib.hid (HXspq.out.later hbn)
              have HYspqx := Lib.hid (HYspq.out.later hbn)
              have HNspqx : Hid (Below w3.heap.size w3 wspqx) := HNspq.out.trans (hbn.mono HNspq.out.size)
              have HMspqx : Hid (Below w.heap.size w wspqx) := below_then HMspq.out hbn
              clear hbn
              refine hK.out _ _ ⟨HPspqx.out, HQspqx.out⟩ (fun hHeld => ?_)
              clear hK K
              try simp only [Act.put, List.setIfInBounds_toArray, List.set_cons_zero, List.set_cons_succ, List.getElem_toArray, List.getElem_cons_zero, List.getElem_cons_succ]
              refine wpAnyH_ready (rs := [5]) (by kernel_rfl) (by simp) ?_
              refine AllReadyH.cons rfl (fun K hK => ?_) ?_
              ·
                go_simp
                obtain ⟨gy, hgy⟩ : ∃ g, wspqx.heap.size = g := ⟨_, rfl⟩
                obtain ⟨wspqxy, hwspqxy⟩ : ∃ w', wspqx.alloc (.cells #[.int .i64 0, .int .u8 0, .int .u8 0, .int .u8 0, .int .u8 0, .int .u8 0, .int .u8 0, .int .u8 0, .int .u8 0, .int .i64 0, .slice none 0 0, .int .u8 0, .int .u8 0, .int .u8 0, .int .u8 0, .int .u8 0, .int .u8 0, .int .u8 0, .int .u8 0, .int .i64 0, .int .u8 0, .int .u8 0, .int .u8 0, .int .u8 0, .int .u8 0, .int .u8 0, .int .u8 0, .int .u8 0, .slice none 0 0, .slice none 0 0] 35) = w' := ⟨_, rfl⟩
                have hbn : Below wspqx.heap.size wspqx wspqxy := hwspqxy ▸ below_new wspqx _
                have HGyspqxy : Hid (Bk wspqxy gy 35 z30) := by show Bk _ _ _ _; rw [← hwspqxy]; exact Bk.at_ wspqx _ _ hgy rfl
                have HLy : Hid (w3.heap.size ≤ gy) := by show _ ≤ _; rw [← hgy]; exact HNspqx.out.size
                have HNE : Hid (gx ≠ gy) := by show _ ≠ _; have := HGxspqx.out.lt; omega
                rw [hgy, hwspqxy]
                clear hgy hwspqxy
                have HPspqxy := Lib.hid (HPspqx.out.later hbn)
                have HQspqxy := Lib.hid (HQspqx.out.later hbn)
                have HRAspqxy := Lib.hid (HRAspqx.out.later hbn)
                have HRBspqxy := Lib.hid (HRBspqx.out.later hbn)
                have HXspqxy := Lib.hid (HXspqx.out.later hbn)
                have HYspqxy := Lib.hid (HYspqx.out.later hbn)
                have HGxspqxy := Lib.hid (HGxspqx.out.later hbn)
                have HNspqxy : Hid (Below w3.heap.size w3 wspqxy) := HNspqx.out.trans (hbn.mono HNspqx.out.size)
                have HMspqxy : Hid (Below w.heap.size w wspqxy) := below_then HMspqx.out hbn
                clear hbn
                refine hK.out _ _ ⟨HPspqxy.out, HQspqxy.out⟩ (fun hHeld => ?_)
                clear hK K
                try simp only [Act.put, List.setIfInBounds_toArray, List.set_cons_zero, List.set_cons_succ, List.getElem_toArray, List.getElem_cons_zero, List.getElem_cons_succ]
                refine wpAnyH_ready (rs := [6]) (by kernel_rfl) (by simp) ?_
                refine AllReadyH.cons rfl (fun K hK => ?_) AllReadyH.nil
                rw [if_pos (by rfl)]
                refine wp_store_part _ _ _ rfl gx 0 _ (cx) rfl rfl rfl _ ([]) (z30) ([]) (by simpa using HGxspqxy.out) rfl (by rw [HXspqxy.out.len]; rfl) (HXspqxy.out.info) HXspqxy.out.one ?_
                intro wy hp
                refine hK.out _ _ ⟨HPspqxy.out.grown hp.only (by intro h; injection h with h; have := HLx.out; have := HZL.out; omega), HQspqxy.out.grown hp.only (by intro h; injection h with h; have := HLx.out; have := HZL.out; omega)⟩ (fun hHeld => ?_)
                clear hK K
                try simp only [Act.put, List.setIfInBounds_toArray, List.set_cons_zero, List.set_cons_succ, List.getElem_toArray, List.getElem_cons_zero, List.getElem_cons_succ]
                have HPy := hHeld.1; have HQy := hHeld.2
                refine wpAnyH_ready (rs := [7]) (by kernel_rfl) (by simp) ?_
                refine AllReadyH.cons rfl (fun K hK => ?_) AllReadyH.nil
                rw [if_pos (by rfl)]
                refine wp_store_part _ _ _ rfl gy 0 _ (cy) rfl rfl rfl _ ([]) (z30) ([]) (by have := HGyspqxy.out.grown hp.only (by intro h; injection h with h; exact HNE.out h.symm); simpa using this) rfl (by rw [HYspqxy.out.len]; rfl) (HYspqxy.out.info) HYspqxy.out.one ?_
                intro wz hp2
                refine hK.out _ _ ⟨HPy.grown hp2.only (by intro h; injection h with h; have := HLy.out; have := HZL.out; omega), HQy.grown hp2.only (by intro h; injection h with h; have := HLy.out; have := HZL.out; omega)⟩ (fun hHeld => ?_)
                clear hK K
                try simp only [Act.put, List.setIfInBounds_toArray, List.set_cons_zero, List.set_cons_succ, List.getElem_toArray, List.getElem_cons_zero, List.getElem_cons_succ]
                refine wpAnyH_done (by kernel_rfl) ?_ _
                have KX : Hid (Bk wz gx 35 cx) := Bk.grown (by have := hp.bk; simpa using this) hp2.only (by intro h; injection h with h; exact HNE.out h)
                have KY : Hid (Bk wz gy 35 cy) := by show Bk _ _ _ _; have := hp2.bk; simpa using this
                have KGy : Hid (Bk wy gy 35 z30) := HGyspqxy.out.grown hp.only (by intro h; injection h with h; exact HNE.out h.symm)
                have TX : Hid (ThK w wz cx (toT A)) := (HXspqxy.out.grown hp.only HGxspqxy.out (by decide)).grown hp2.only KGy.out (by decide)
                have TY : Hid (ThK w wz cy (toT B)) := (HYspqxy.out.grown hp.only HGxspqxy.out (by decide)).grown hp2.only KGy.out (by decide)
                have KB : Hid (Below w3.heap.size w3 wz) := below_only (below_only HNspqxy.out hp.only HNspqxy.out.size HLx.out) hp2.only (Nat.le_trans HNspqxy.out.size hp.only.size) HLy.out
                clear hHeld hp hp2 HPy HQy
                go_wp2_with fail
                go_meet
                exact ⟨gx, gy, cx, cy, rfl, rfl, KX.out, KY.out, TX.out, TY.out, HNE.out, ⟨HLx.out, HLy.out⟩, KB.out⟩
              exact AllReadyH.nil
            refine AllReadyH.cons rfl (fun K hK => ?_) ?_
            ·
              go_simp
              obtain ⟨gy, hgy⟩ : ∃ g, wspq.heap.size = g := ⟨_, rfl⟩
              obtain ⟨wspqy, hwspqy⟩ : ∃ w', wspq.alloc (.cells #[.int .i64 0, .int .u8 0, .int .u8 0, .int .u8 0, .int .u8 0, .int .u8 0, .int .u8 0, .int .u8 0, .int .u8 0, .int .i64 0, .slice none 0 0, .int .u8 0, .int .u8 0, .int .u8 0, .int .u8 0, .int .u8 0, .int .u8 0, .int .u8 0, .int .u8 0, .int .i64 0, .int .u8 0, .int .u8 0, .int .u8 0, .int .u8 0, .int .u8 0, .int .u8 0, .int .u8 0, .int .u8 0, .slice none 0 0, .slice none 0 0] 35) = w' := ⟨_, rfl⟩
              have hbn : Below wspq.heap.size wspq wspqy := hwspqy ▸ below_new wspq _
              have HGyspqy : Hid (Bk wspqy gy 35 z30) := by show Bk _ _ _ _; rw [← hwspqy]; exact Bk.at_ wspq _ _ hgy rfl
              have HLy : Hid (w3.heap.size ≤ gy) := by show _ ≤ _; rw [← hgy]; exact HNspq.out.size
              rw [hgy, hwspqy]
              clear hgy hwspqy
              have HPspqy := Lib.hid (HPspq.out.later hbn)
              have HQspqy := Lib.hid (HQspq.out.later hbn)
              have HRAspqy := Lib.hid (HRAspq.out.later hbn)
              have HRBspqy := Lib.hid (HRBspq.out.later hbn)
              have HXspqy := Lib.hid (HXspq.out.later hbn)
              have HYspqy := Lib.hid (HYspq.out.later hbn)
              have HNspqy : Hid (Below w3.heap.size w3 wspqy) := HNspq.out.trans (hbn.mono HNspq.out.size)
              have HMspqy : Hid (Below w.heap.size w wspqy) := below_then HMspq.out hbn
              clear hbn
              refine hK.out _ _ ⟨HPspqy.out, HQspqy.out⟩ (fun hHeld => ?_)
              clear hK K
              try simp only [Act.put, List.setIfInBounds_toArray, List.set_cons_zero, List.set_cons_succ, List.getElem_toArray, List.getElem_cons_zero, List.getElem_cons_succ]
              refine wpAnyH_ready (rs := [4]) (by kernel_rfl) (by simp) ?_
              refine AllReadyH.cons rfl (fun K hK => ?_) ?_
              ·
                go_simp
                obtain ⟨gx, hgx⟩ : ∃ g, wspqy.heap.size = g := ⟨_, rfl⟩
                obtain ⟨wspqyx, hwspqyx⟩ : ∃ w', wspqy.alloc (.cells #[.int .i64 0, .int .u8 0, .int .u8 0, .int .u8 0, .int .u8 0, .int .u8 0, .int .u8 0, .int .u8 0, .int .u8 0, .int .i64 0, .slice none 0 0, .int .u8 0, .int .u8 0, .int .u8 0, .int .u8 0, .int .u8 0, .int .u8 0, .int .u8 0, .int .u8 0, .int .i64 0, .int .u8 0, .int .u8 0, .int .u8 0, .int .u8 0, .int .u8 0, .int .u8 0, .int .u8 0, .int .u8 0, .slice none 0 0, .slice none 0 0] 35) = w' := ⟨_, rfl⟩
                have hbn : Below wspqy.heap.size wspqy wspqyx := hwspqyx ▸ below_new wspqy _
                have HGxspqyx : Hid (Bk wspqyx gx 35 z30) := by show Bk _ _ _ _; rw [← hwspqyx]; exact Bk.at_ wspqy _ _ hgx rfl
                have HLx : Hid (w3.heap.size ≤ gx) := by show _ ≤ _; rw [← hgx]; exact HNspqy.out.size
                have HNE : Hid (gx ≠ gy) := by show _ ≠ _; have := HGyspqy.out.lt; omega
                rw [hgx, hwspqyx]
                clear hgx hwspqyx
                have HPspqyx := Lib.hid (HPspqy.out.later hbn)
                have HQspqyx := Lib.hid (HQspqy.out.later hbn)
                have HRAspqyx := Lib.hid (HRAspqy.out.later hbn)
                have HRBspqyx := Lib.hid (HRBspqy.out.later hbn)
                have HXspqyx := Lib.hid (HXspqy.out.later hbn)
                have HYspqyx := Lib.hid (HYspqy.out.later hbn)
                have HGyspqyx := Lib.hid (HGyspqy.out.later hbn)
                have HNspqyx : Hid (Below w3.heap.size w3 wspqyx) := HNspqy.out.trans (hbn.mono HNspqy.out.size)
                have HMspqyx : Hid (Below w.heap.size w wspqyx) := below_then HMspqy.out hbn
                clear hbn
                refine hK.out _ _ ⟨HPspqyx.out, HQspqyx.out⟩ (fun hHeld => ?_)
                clear hK K
                try simp only [Act.put, List.setIfInBounds_toArray, List.set_cons_zero, List.set_cons_succ, List.getElem_toArray, List.getElem_cons_zero, List.getElem_cons_succ]
                refine wpAnyH_ready (rs := [6]) (by kernel_rfl) (by simp) ?_
                refine AllReadyH.cons rfl (fun K hK => ?_) AllReadyH.nil
                rw [if_pos (by rfl)]
                refine wp_store_part _ _ _ rfl gx 0 _ (cx) rfl rfl rfl _ ([]) (z30) ([]) (by simpa using HGxspqyx.out) rfl (by rw [HXspqyx.out.len]; rfl) (HXspqyx.out.info) HXspqyx.out.one ?_
                intro wy hp
                refine hK.out _ _ ⟨HPspqyx.out.grown hp.only (by intro h; injection h with h; have := HLx.out; have := HZL.out; omega), HQspqyx.out.grown hp.only (by intro h; injection h with h; have := HLx.out; have := HZL.out; omega)⟩ (fun hHeld => ?_)
                clear hK K
                try simp only [Act.put, List.setIfInBounds_toArray, List.set_cons_zero, List.set_cons_succ, List.getElem_toArray, List.getElem_cons_zero, List.getElem_cons_succ]
                have HPy := hHeld.1; have HQy := hHeld.2
                refine wpAnyH_ready (rs := [7]) (by kernel_rfl) (by simp) ?_
                refine AllReadyH.cons rfl (fun K hK => ?_) AllReadyH.nil
                rw [if_pos (by rfl)]
                refine wp_store_part _ _ _ rfl gy 0 _ (cy) rfl rfl rfl _ ([]) (z30) ([]) (by have := HGyspqyx.out.grown hp.only (by intro h; injection h with h; exact HNE.out h.symm); simpa using this) rfl (by rw [HYspqyx.out.len]; rfl) (HYspqyx.out.info) HYspqyx.out.one ?_
                intro wz hp2
                refine hK.out _ _ ⟨HPy.grown hp2.only (by intro h; injection h with h; have := HLy.out; have := HZL.out; omega), HQy.grown hp2.only (by intro h; injection h with h; have := HLy.out; have := HZL.out; omega)⟩ (fun hHeld => ?_)
                clear hK K
                try simp only [Act.put, List.setIfInBounds_toArray, List.set_cons_zero, List.set_cons_succ, List.getElem_toArray, List.getElem_cons_zero, List.getElem_cons_succ]
                refine wpAnyH_done (by kernel_rfl) ?_ _
                have KX : Hid (Bk wz gx 35 cx) := Bk.grown (by have := hp.bk; simpa using this) hp2.only (by intro h; injection h with h; exact HNE.out h)
                have KY : Hid (Bk wz gy 35 cy) := by show Bk _ _ _ _; have := hp2.bk; simpa using this
                have KGy : Hid (Bk wy gy 35 z30) := HGyspqyx.out.grown hp.only (by intro h; injection h with h; exact HNE.out h.symm)
                have TX : Hid (ThK w wz cx (toT A)) := (HXspqyx.out.grown hp.only HGxspqyx.out (by decide)).grown hp2.only KGy.out (by decide)
                have TY : Hid (ThK w wz cy (toT B)) := (HYspqyx.out.grown hp.only HGxspqyx.out (by decide)).grown hp2.only KGy.out (by decide)
                have KB : Hid (Below w3.heap.size w3 wz) := below_only (below_only HNspqyx.out hp.only HNspqyx.out.size HLx.out) hp2.only (Nat.le_trans HNspqyx.out.size hp.only.size) HLy.out
                clear hHeld hp hp2 HPy HQy
                go_wp2_with fail
                go_meet
                exact ⟨gx, gy, cx, cy, rfl, rfl, KX.out, KY.out, TX.out, TY.out, HNE.out, ⟨HLx.out, HLy.out⟩, KB.out⟩
              exact AllReadyH.nil
            exact AllReadyH.nil
          refine AllReadyH.cons rfl (fun K hK => ?_) ?_
          ·
            go_simp
            obtain ⟨gx, hgx⟩ : ∃ g, wsp.heap.size = g := ⟨_, rfl⟩
            obtain ⟨wspx, hwspx⟩ : ∃ w', wsp.alloc (.cells #[.int .i64 0, .int .u8 0, .int .u8 0, .int .u8 0, .int .u8 0, .int .u8 0, .int .u8 0, .int .u8 0, .int .u8 0, .int .i64 0, .slice none 0 0, .int .u8 0, .int .u8 0, .int .u8 0, .int .u8 0, .int .u8 0, .int .u8 0, .int .u8 0, .int .u8 0, .int .i64 0, .int .u8 0, .int .u8 0, .int .u8 0, .int .u8 0, .int .u8 0, .int .u8 0, .int .u8 0, .int .u8 0, .slice none 0 0, .slice none 0 0] 35) = w' := ⟨_, rfl⟩
            have hbn : Below wsp.heap.size wsp wspx := hwspx ▸ below_new wsp _
            have HGxspx : Hid (Bk wspx gx 35 z30) := by show Bk _ _ _ _; rw [← hwspx]; exact Bk.at_ wsp _ _ hgx rfl
            have HLx : Hid (w3.heap.size ≤ gx) := by show _ ≤ _; rw [← hgx]; exact HNsp.out.size
            rw [hgx, hwspx]
            clear hgx hwspx
            have HPspx := Lib.hid (HPsp.out.later hbn)
            have HQspx := Lib.hid (HQsp.out.later hbn)
            have HRAspx := Lib.hid (HRAsp.out.later hbn)
            have HRBspx := Lib.hid (HRBsp.out.later hbn)
            have HXspx := Lib.hid (HXsp.out.later hbn)
            have HNspx : Hid (Below w3.heap.size w3 wspx) := HNsp.out.trans (hbn.mono HNsp.out.size)
            have HMspx : Hid (Below w.heap.size w wspx) := below_then HMsp.out hbn
            clear hbn
            refine hK.out _ _ ⟨HPspx.out, HQspx.out⟩ (fun hHeld => ?_)
            clear hK K
            try simp only [Act.put, List.setIfInBounds_toArray, List.set_cons_zero, List.set_cons_succ, List.getElem_toArray, List.getElem_cons_zero, List.getElem_cons_succ]
            refine wpAnyH_ready (rs := [3, 5]) (by kernel_rfl) (by simp) ?_
            refine AllReadyH.cons rfl (fun K hK => ?_) ?_
            ·
              go_simp
              go_at_call 17
              refine (ofK HRBspx.out HMspx.out).mono ?_
              rintro e wspxq ⟨⟨cy, rfl, hx⟩, hbn⟩
              have HYspxq := Lib.hid hx
              clear hx
              have HPspxq := Lib.hid (HPspx.out.later hbn)
              have HQspxq := Lib.hid (HQspx.out.later hbn)
              have HRAspxq := Lib.hid (HRAspx.out.later hbn)
              have HRBspxq := Lib.hid (HRBspx.out.later hbn)
              have HXspxq := Lib.hid (HXspx.out.later hbn)
              have HGxspxq := Lib.hid (HGxspx.out.later hbn)
              have HNspxq : Hid (Below w3.heap.size w3 wspxq) := HNspx.out.trans (hbn.mono HNspx.out.size)
              have HMspxq : Hid (Below w.heap.size w wspxq) := below_then HMspx.out hbn
              clear hbn
              refine hK.out _ _ ⟨HPspxq.out, HQspxq.out⟩ (fun hHeld => ?_)
              clear hK K
              try simp only [Act.put, List.setIfInBounds_toArray, List.set_cons_zero, List.set_cons_succ, List.getElem_toArray, List.getElem_cons_zero, List.getElem_cons_succ]
              refine wpAnyH_ready (rs := [5]) (by kernel_rfl) (by simp) ?_
              refine AllReadyH.cons rfl (fun K hK => ?_) ?_
              ·
                go_simp
                obtain ⟨gy, hgy⟩ : ∃ g, wspxq.heap.size = g := ⟨_, rfl⟩
                obtain ⟨wspxqy, hwspxqy⟩ : ∃ w', wspxq.alloc (.cells #[.int .i64 0, .int .u8 0, .int .u8 0, .int .u8 0, .int .u8 0, .int .u8 0, .int .u8 0, .int .u8 0, .int .u8 0, .int .i64 0, .slice none 0 0, .int .u8 0, .int .u8 0, .int .u8 0, .int .u8 0, .int .u8 0, .int .u8 0, .int .u8 0, .int .u8 0, .int .i64 0, .int .u8 0, .int .u8 0, .int .u8 0, .int .u8 0, .int .u8 0, .int .u8 0, .int .u8 0, .int .u8 0, .slice none 0 0, .slice none 0 0] 35) = w' := ⟨_, rfl⟩
                have hbn : Below wspxq.heap.size wspxq wspxqy := hwspxqy ▸ below_new wspxq _
                have HGyspxqy : Hid (Bk wspxqy gy 35 z30) := by show Bk _ _ _ _; rw [← hwspxqy]; exact Bk.at_ wspxq _ _ hgy rfl
                have HLy : Hid (w3.heap.size ≤ gy) := by show _ ≤ _; rw [← hgy]; exact HNspxq.out.size
                have HNE : Hid (gx ≠ gy) := by show _ ≠ _; have := HGxspxq.out.lt; omega
                rw [hgy, hwspxqy]
                clear hgy hwspxqy
                have HPspxqy := Lib.hid (HPspxq.out.later hbn)
                have HQspxqy := Lib.hid (HQspxq.out.later hbn)
                have HRAspxqy := Lib.hid (HRAspxq.out.later hbn)
                have HRBspxqy := Lib.hid (HRBspxq.out.later hbn)
                have HXspxqy := Lib.hid (HXspxq.out.later hbn)
                have HGxspxqy := Lib.hid (HGxspxq.out.later hbn)
                have HYspxqy := Lib.hid (HYspxq.out.later hbn)
                have HNspxqy : Hid (Below w3.heap.size w3 wspxqy) := HNspxq.out.trans (hbn.mono HNspxq.out.size)
                have HMspxqy : Hid (Below w.heap.size w wspxqy) := below_then HMspxq.out hbn
                clear hbn
                refine hK.out _ _ ⟨HPspxqy.out, HQspxqy.out⟩ (fun hHeld => ?_)
                clear hK K
                try simp only [Act.put, List.setIfInBounds_toArray, List.set_cons_zero, List.set_cons_succ, List.getElem_toArray, List.getElem_cons_zero, List.getElem_cons_succ]
                refine wpAnyH_ready (rs := [6]) (by kernel_rfl) (by simp) ?_
                refine AllReadyH.cons rfl (fun K hK => ?_) AllReadyH.nil
                rw [if_pos (by rfl)]
                refine wp_store_part _ _ _ rfl gx 0 _ (cx) rfl rfl rfl _ ([]) (z30) ([]) (by simpa using HGxspxqy.out) rfl (by rw [HXspxqy.out.len]; rfl) (HXspxqy.out.info) HXspxqy.out.one ?_
                intro wy hp
                refine hK.out _ _ ⟨HPspxqy.out.grown hp.only (by intro h; injection h with h; have := HLx.out; have := HZL.out; omega), HQspxqy.out.grown hp.only (by intro h; injection h with h; have := HLx.out; have := HZL.out; omega)⟩ (fun hHeld => ?_)
                clear hK K
                try simp only [Act.put, List.setIfInBounds_toArray, List.set_cons_zero, List.set_cons_succ, List.getElem_toArray, List.getElem_cons_zero, List.getElem_cons_succ]
                have HPy := hHeld.1; have HQy := hHeld.2
                refine wpAnyH_ready (rs := [7]) (by kernel_rfl) (by simp) ?_
                refine AllReadyH.cons rfl (fun K hK => ?_) AllReadyH.nil
                rw [if_pos (by rfl)]
                refine wp_store_part _ _ _ rfl gy 0 _ (cy) rfl rfl rfl _ ([]) (z30) ([]) (by have := HGyspxqy.out.grown hp.only (by intro h; injection h with h; exact HNE.out h.symm); simpa using this) rfl (by rw [HYspxqy.out.len]; rfl) (HYspxqy.out.info) HYspxqy.out.one ?_
                intro wz hp2
                refine hK.out _ _ ⟨HPy.grown hp2.only (by intro h; injection h with h; have := HLy.out; have := HZL.out; omega), HQy.grown hp2.only (by intro h; injection h with h; have := HLy.out; have := HZL.out; omega)⟩ (fun hHeld => ?_)
                clear hK K
                try simp only [Act.put, List.setIfInBounds_toArray, List.set_cons_zero, List.set_cons_succ, List.getElem_toArray, List.getElem_cons_zero, List.getElem_cons_succ]
                refine wpAnyH_done (by kernel_rfl) ?_ _
                have KX : Hid (Bk wz gx 35 cx) := Bk.grown (by have := hp.bk; simpa using this) hp2.only (by intro h; injection h with h; exact HNE.out h)
                have KY : Hid (Bk wz gy 35 cy) := by show Bk _ _ _ _; have := hp2.bk; simpa using this
                have KGy : Hid (Bk wy gy 35 z30) := HGyspxqy.out.grown hp.only (by intro h; injection h with h; exact HNE.out h.symm)
                have TX : Hid (ThK w wz cx (toT A)) := (HXspxqy.out.grown hp.only HGxspxqy.out (by decide)).grown hp2.only KGy.out (by decide)
                have TY : Hid (ThK w wz cy (toT B)) := (HYspxqy.out.grown hp.only HGxspxqy.out (by decide)).grown hp2.only KGy.out (by decide)
                have KB : Hid (Below w3.heap.size w3 wz) := below_only (below_only HNspxqy.out hp.only HNspxqy.out.size HLx.out) hp2.only (Nat.le_trans HNspxqy.out.size hp.only.size) HLy.out
                clear hHeld hp hp2 HPy HQy
                go_wp2_with fail
                go_meet
                exact ⟨gx, gy, cx, cy, rfl, rfl, KX.out, KY.out, TX.out, TY.out, HNE.out, ⟨HLx.out, HLy.out⟩, KB.out⟩
              exact AllReadyH.nil
            refine AllReadyH.cons rfl (fun K hK => ?_) ?_
            ·
              go_simp
              obtain ⟨gy, hgy⟩ : ∃ g, wspx.heap.size = g := ⟨_, rfl⟩
              obtain ⟨wspxy, hwspxy⟩ : ∃ w', wspx.alloc (.cells #[.int .i64 0, .int .u8 0, .int .u8 0, .int .u8 0, .int .u8 0, .int .u8 0, .int .u8 0, .int .u8 0, .int .u8 0, .int .i64 0, .slice none 0 0, .int .u8 0, .int .u8 0, .int .u8 0, .int .u8 0, .int .u8 0, .int .u8 0, .int .u8 0, .int .u8 0, .int .i64 0, .int .u8 0, .int .u8 0, .int .u8 0, .int .u8 0, .int .u8 0, .int .u8 0, .int .u8 0, .int .u8 0, .slice none 0 0, .slice none 0 0] 35) = w' := ⟨_, rfl⟩
              have hbn : Below wspx.heap.size wspx wspxy := hwspxy ▸ below_new wspx _
              have HGyspxy : Hid (Bk wspxy gy 35 z30) := by show Bk _ _ _ _; rw [← hwspxy]; exact Bk.at_ wspx _ _ hgy rfl
              have HLy : Hid (w3.heap.size ≤ gy) := by show _ ≤ _; rw [← hgy]; exact HNspx.out.size
              have HNE : Hid (gx ≠ gy) := by show _ ≠ _; have := HGxspx.out.lt; omega
              rw [hgy, hwspxy]
              clear hgy hwspxy
              have HPspxy := Lib.hid (HPspx.out.later hbn)
              have HQspxy := Lib.hid (HQspx.out.later hbn)
              have HRAspxy := Lib.hid (HRAspx.out.later hbn)
              have HRBspxy := Lib.hid (HRBspx.out.later hbn)
              have HXspxy := Lib.hid (HXspx.out.later hbn)
              have HGxspxy := Lib.hid (HGxspx.out.later hbn)
              have HNspxy : Hid (Below w3.heap.size w3 wspxy) := HNspx.out.trans (hbn.mono HNspx.out.size)
              have HMspxy : Hid (Below w.heap.size w wspxy) := below_then HMspx.out hbn
              clear hbn
              refine hK.out _ _ ⟨HPspxy.out, HQspxy.out⟩ (fun hHeld => ?_)
              clear hK K
              try simp only [Act.put, List.setIfInBounds_toArray, List.set_cons_zero, List.set_cons_succ, List.getElem_toArray, List.getElem_cons_zero, List.getElem_cons_succ]
              refine wpAnyH_ready (rs := [3]) (by kernel_rfl) (by simp) ?_
              refine AllReadyH.cons rfl (fun K hK => ?_) ?_
              ·
                go_simp
                go_at_call 17
                refine (ofK HRBspxy.out HMspxy.out).mono ?_
                rintro e wspxyq ⟨⟨cy, rfl, hx⟩, hbn⟩
                have HYspxyq := Lib.hid hx
                clear hx
                have HPspxyq := Lib.hid (HPspxy.out.later hbn)
                have HQspxyq := Lib.hid (HQspxy.out.later hbn)
                have HRAspxyq := Lib.hid (HRAspxy.out.later hbn)
                have HRBspxyq := Lib.hid (HRBspxy.out.later hbn)
                have HXspxyq := Lib.hid (HXspxy.out.later hbn)
                have HGxspxyq := Lib.hid (HGxspxy.out.later hbn)
                have HGyspxyq := Lib.hid (HGyspxy.out.later hbn)
                have HNspxyq : Hid (Below w3.heap.size w3 wspxyq) := HNspxy.out.trans (hbn.mono HNspxy.out.size)
                have HMspxyq : Hid (Below w.heap.size w wspxyq) := below_then HMspxy.out hbn
                clear hbn
                refine hK.out _ _ ⟨HPspxyq.out, HQspxyq.out⟩ (fun hHeld => ?_)
                clear hK K
                try simp only [Act.put, List.setIfInBounds_toArray, List.set_cons_zero, List.set_cons_succ, List.getElem_toArray, List.getElem_cons_zero, List.getElem_cons_succ]
                refine wpAnyH_ready (rs := [6]) (by kernel_rfl) (by simp) ?_
                refine AllReadyH.cons rfl (fun K hK => ?_) AllReadyH.nil
                rw [if_pos (by rfl)]
                refine wp_store_part _ _ _ rfl gx 0 _ (cx) rfl rfl rfl _ ([]) (z30) ([]) (by simpa using HGxspxyq.out) rfl (by rw [HXspxyq.out.len]; rfl) (HXspxyq.out.info) HXspxyq.out.one ?_
                intro wy hp
                refine hK.out _ _ ⟨HPspxyq.out.grown hp.only (by intro h; injection h with h; have := HLx.out; have := HZL.out; omega), HQspxyq.out.grown hp.only (by intro h; injection h with h; have := HLx.out; have := HZL.out; omega)⟩ (fun hHeld => ?_)
                clear hK K
                try simp only [Act.put, List.setIfInBounds_toArray, List.set_cons_zero, List.set_cons_succ, List.getElem_toArray, List.getElem_cons_zero, List.getElem_cons_succ]
                have HPy := hHeld.1; have HQy := hHeld.2
                refine wpAnyH_ready (rs := [7]) (by kernel_rfl) (by simp) ?_
                refine AllReadyH.cons rfl (fun K hK => ?_) AllReadyH.nil
                rw [if_pos (by rfl)]
                refine wp_store_part _ _ _ rfl gy 0 _ (cy) rfl rfl rfl _ ([]) (z30) ([]) (by have := HGyspxyq.out.grown hp.only (by intro h; injection h with h; exact HNE.out h.symm); simpa using this) rfl (by rw [HYspxyq.out.len]; rfl) (HYspxyq.out.info) HYspxyq.out.one ?_
                intro wz hp2
                refine hK.out _ _ ⟨HPy.grown hp2.only (by intro h; injection h with h; have := HLy.out; have := HZL.out; omega), HQy.grown hp2.only (by intro h; injection h with h; have := HLy.out; have := HZL.out; omega)⟩ (fun hHeld => ?_)
                clear hK K
                try simp only [Act.put, List.setIfInBounds_toArray, List.set_cons_zero, List.set_cons_succ, List.getElem_toArray, List.getElem_cons_zero, List.getElem_cons_succ]
                refine wpAnyH_done (by kernel_rfl) ?_ _
                have KX : Hid (Bk wz gx 35 cx) := Bk.grown (by have := hp.bk; simpa using this) hp2.only (by intro h; injection h with h; exact HNE.out h)
                have KY : Hid (Bk wz gy 35 cy) := by show Bk _ _ _ _; have := hp2.bk; simpa using this
                have KGy : Hid (Bk wy gy 35 z30) := HGyspxyq.out.grown hp.only (by intro h; injection h with h; exact HNE.out h.symm)
                have TX : Hid (ThK w wz cx (toT A)) := (HXspxyq.out.grown hp.only HGxspxyq.out (by decide)).grown hp2.only KGy.out (by decide)
                have TY : Hid (ThK w wz cy (toT B)) := (HYspxyq.out.grown hp.only HGxspxyq.out (by decide)).grown hp2.only KGy.out (by decide)
                have KB : Hid (Below w3.heap.size w3 wz) := below_only (below_only HNspxyq.out hp.only HNspxyq.out.size HLx.out) hp2.only (Nat.le_trans HNspxyq.out.size hp.only.size) HLy.out
                clear hHeld hp hp2 HPy HQy
                go_wp2_with fail
                go_meet
                exact ⟨gx, gy, cx, cy, rfl, rfl, KX.out, KY.out, TX.out, TY.out, HNE.out, ⟨HLx.out, HLy.out⟩, KB.out⟩
              exact AllReadyH.nil
            exact AllReadyH.nil
          refine AllReadyH.cons rfl (fun K hK => ?_) ?_
          ·
            go_simp
            obtain ⟨gy, hgy⟩ : ∃ g, wsp.heap.size = g := ⟨_, rfl⟩
            obtain ⟨wspy, hwspy⟩ : ∃ w', wsp.alloc (.cells #[.int .i64 0, .int .u8 0, .int .u8 0, .int .u8 0, .int .u8 0, .int .u8 0, .int .u8 0, .int .u8 0, .int .u8 0, .int .i64 0, .slice none 0 0, .int .u8 0, .int .u8 0, .int .u8 0, .int .u8 0, .int .u8 0, .int .u8 0, .int .u8 0, .int .u8 0, .int .i64 0, .int .u8 0, .int .u8 0, .int .u8 0, .int .u8 0, .int .u8 0, .int .u8 0, .int .u8 0, .int .u8 0, .slice none 0 0, .slice none 0 0] 35) = w' := ⟨_, rfl⟩
            have hbn : Below wsp.heap.size wsp wspy := hwspy ▸ below_new wsp _
            have HGyspy : Hid (Bk wspy gy 35 z30) := by show Bk _ _ _ _; rw [← hwspy]; exact Bk.at_ wsp _ _ hgy rfl
            have HLy : Hid (w3.heap.size ≤ gy) := by show _ ≤ _; rw [← hgy]; exact HNsp.out.size
            rw [hgy, hwspy]
            clear hgy hwspy
            have HPspy := Lib.hid (HPsp.out.later hbn)
            have HQspy := Lib.hid (HQsp.out.later hbn)
            have HRAspy := Lib.hid (HRAsp.out.later hbn)
            have HRBspy := Lib.hid (HRBsp.out.later hbn)
            have HXspy := Lib.hid (HXsp.out.later hbn)
            have HNspy : Hid (Below w3.heap.size w3 wspy) := HNsp.out.trans (hbn.mono HNsp.out.size)
            have HMspy : Hid (Below w.heap.size w wspy) := below_then HMsp.out hbn
            clear hbn
            refine hK.out _ _ ⟨HPspy.out, HQspy.out⟩ (fun hHeld => ?_)
            clear hK K
            try simp only [Act.put, List.setIfInBounds_toArray, List.set_cons_zero, List.set_cons_succ, List.getElem_toArray, List.getElem_cons_zero, List.getElem_cons_succ]
            refine wpAnyH_ready (rs := [3, 4]) (by kernel_rfl) (by simp) ?_
            refine AllReadyH.cons rfl (fun K hK => ?_) ?_
            ·
              go_simp
              go_at_call 17
              refine (ofK HRBspy.out HMspy.out).mono ?_
              rintro e wspyq ⟨⟨cy, rfl, hx⟩, hbn⟩
              have HYspyq := Lib.hid hx
              clear hx
              have HPspyq := Lib.hid (HPspy.out.later hbn)
              have HQspyq := Lib.hid (HQspy.out.later hbn)
              have HRAspyq := Lib.hid (HRAspy.out.later hbn)
              have HRBspyq := Lib.hid (HRBspy.out.later hbn)
              have HXspyq := Lib.hid (HXspy.out.later hbn)
              have HGyspyq := Lib.hid (HGyspy.out.later hbn)
              have HNspyq : Hid (Below w3.heap.size w3 wspyq) := HNspy.out.trans (hbn.mono HNspy.out.size)
              have HMspyq : Hid (Below w.heap.size w wspyq) := below_then HMspy.out hbn
              clear hbn
              refine hK.out _ _ ⟨HPspyq.out, HQspyq.out⟩ (fun hHeld => ?_)
              clear hK K
              try simp only [Act.put, List.setIfInBounds_toArray, List.set_cons_zero, List.set_cons_succ, List.getElem_toArray, List.getElem_cons_zero, List.getElem_cons_succ]
              refine wpAnyH_ready (rs := [4]) (by kernel_rfl) (by simp) ?_
              refine AllReadyH.cons rfl (fun K hK => ?_) ?_
              ·
                go_simp
                obtain ⟨gx, hgx⟩ : ∃ g, wspyq.heap.size = g := ⟨_, rfl⟩
                obtain ⟨wspyqx, hwspyqx⟩ : ∃ w', wspyq.alloc (.cells #[.int .i64 0, .int .u8 0, .int .u8 0, .int .u8 0, .int .u8 0, .int .u8 0, .int .u8 0, .int .u8 0, .int .u8 0, .int .i64 0, .slice none 0 0, .int .u8 0, .int .u8 0, .int .u8 0, .int .u8 0, .int .u8 0, .int .u8 0, .int .u8 0, .int .u8 0, .int .i64 0, .int .u8 0, .int .u8 0, .int .u8 0, .int .u8 0, .int .u8 0, .int .u8 0, .int .u8 0, .int .u8 0, .slice none 0 0, .slice none 0 0] 35) = w' := ⟨_, rfl⟩
                have hbn : Below wspyq.heap.size wspyq wspyqx := hwspyqx ▸ below_new wspyq _
                have HGxspyqx : Hid (Bk wspyqx gx 35 z30) := by show Bk _ _ _ _; rw [← hwspyqx]; exact Bk.at_ wspyq _ _ hgx rfl
                have HLx : Hid (w3.heap.size ≤ gx) := by show _ ≤ _; rw [← hgx]; exact HNspyq.out.size
                have HNE : Hid (gx ≠ gy) := by show _ ≠ _; have := HGyspyq.out.lt; omega
                rw [hgx, hwspyqx]
                clear hgx hwspyqx
                have HPspyqx := Lib.hid (HPspyq.out.later hbn)
                have HQspyqx := Lib.hid (HQspyq.out.later hbn)
                have HRAspyqx := Lib.hid (HRAspyq.out.later hbn)
                have HRBspyqx := Lib.hid (HRBspyq.out.later hbn)
                have HXspyqx := Lib.hid (HXspyq.out.later hbn)
                have HGyspyqx := Lib.hid (HGyspyq.out.later hbn)
                have HYspyqx := Lib.hid (HYspyq.out.later hbn)
                have HNspyqx : Hid (Below w3.heap.size w3 wspyqx) := HNspyq.out.trans (hbn.mono HNspyq.out.size)
                have HMspyqx : Hid (Below w.heap.size w wspyqx) := below_then HMspyq.out hbn
                clear hbn
                refine hK.out _ _ ⟨HPspyqx.out, HQspyqx.out⟩ (fun hHeld => ?_)
                clear hK K
                try simp only [Act.put, List.setIfInBounds_toArray, List.set_cons_zero, List.set_cons_succ, List.getElem_toArray, List.getElem_cons_zero, List.getElem_cons_succ]
                refine wpAnyH_ready (rs := [6]) (by kernel_rfl) (by simp) ?_
                refine AllReadyH.cons rfl (fun K hK => ?_) AllReadyH.nil
                rw [if_pos (by rfl)]
                refine wp_store_part _ _ _ rfl gx 0 _ (cx) rfl rfl rfl _ ([]) (z30) ([]) (by simpa using HGxspyqx.out) rfl (by rw [HXspyqx.out.len]; rfl) (HXspyqx.out.info) HXspyqx.out.one ?_
                intro wy hp
                refine hK.out _ _ ⟨HPspyqx.out.grown hp.only (by intro h; injection h with h; have := HLx.out; have := HZL.out; omega), HQspyqx.out.grown hp.only (by intro h; injection h with h; have := HLx.out; have := HZL.out; omega)⟩ (fun hHeld => ?_)
                clear hK K
                try simp only [Act.put, List.setIfInBounds_toArray, List.set_cons_zero, List.set_cons_succ, List.getElem_toArray, List.getElem_cons_zero, List.getElem_cons_succ]
                have HPy := hHeld.1; have HQy := hHeld.2
                refine wpAnyH_ready (rs := [7]) (by kernel_rfl) (by simp) ?_
                refine AllReadyH.cons rfl (fun K hK => ?_) AllReadyH.nil
                rw [if_pos (by rfl)]
                refine wp_store_part _ _ _ rfl gy 0 _ (cy) rfl rfl rfl _ ([]) (z30) ([]) (by have := HGyspyqx.out.grown hp.only (by intro h; injection h with h; exact HNE.out h.symm); simpa using this) rfl (by rw [HYspyqx.out.len]; rfl) (HYspyqx.out.info) HYspyqx.out.one ?_
                intro wz hp2
                refine hK.out _ _ ⟨HPy.grown hp2.only (by intro h; injection h with h; have := HLy.out; have := HZL.out; omega), HQy.grown hp2.only (by intro h; injection h with h; have := HLy.out; have := HZL.out; omega)⟩ (fun hHeld => ?_)
                clear hK K
                try simp only [Act.put, List.setIfInBounds_toArray, List.set_cons_zero, List.set_cons_succ, List.getElem_toArray, List.getElem_cons_zero, List.getElem_cons_succ]
                refine wpAnyH_done (by kernel_rfl) ?_ _
                have KX : Hid (Bk wz gx 35 cx) := Bk.grown (by have := hp.bk; simpa using this) hp2.only (by intro h; injection h with h; exact HNE.out h)
                have KY : Hid (Bk wz gy 35 cy) := by show Bk _ _ _ _; have := hp2.bk; simpa using this
                have KGy : Hid (Bk wy gy 35 z30) := HGyspyqx.out.grown hp.only (by intro h; injection h with h; exact HNE.out h.symm)
                have TX : Hid (ThK w wz cx (toT A)) := (HXspyqx.out.grown hp.only HGxspyqx.out (by decide)).grown hp2.only KGy.out (by decide)
                have TY : Hid (ThK w wz cy (toT B)) := (HYspyqx.out.grown hp.only HGxspyqx.out (by decide)).grown hp2.only KGy.out (by decide)
                have KB : Hid (Below w3.heap.size w3 wz) := below_only (below_only HNspyqx.out hp.only HNspyqx.out.size HLx.out) hp2.only (Nat.le_trans HNspyqx.out.size hp.only.size) HLy.out
                clear hHeld hp hp2 HPy HQy
                go_wp2_with fail
                go_meet
                exact ⟨gx, gy, cx, cy, rfl, rfl, KX.out, KY.out, TX.out, TY.out, HNE.out, ⟨HLx.out, HLy.out⟩, KB.out⟩
              exact AllReadyH.nil
            refine AllReadyH.cons rfl (fun K hK => ?_) ?_
            ·
              go_simp
              obtain ⟨gx, hgx⟩ : ∃ g, wspy.heap.size = g := ⟨_, rfl⟩
              obtain ⟨wspyx, hwspyx⟩ : ∃ w', wspy.alloc (.cells #[.int .i64 0, .int .u8 0, .int .u8 0, .int .u8 0, .int .u8 0, .int .u8 0, .int .u8 0, .int .u8 0, .int .u8 0, .int .i64 0, .slice none 0 0, .int .u8 0, .int .u8 0, .int .u8 0, .int .u8 0, .int .u8 0, .int .u8 0, .int .u8 0, .int .u8 0, .int .i64 0, .int .u8 0, .int .u8 0, .int .u8 0, .int .u8 0, .int .u8 0, .int .u8 0, .int .u8 0, .int .u8 0, .slice none 0 0, .slice none 0 0] 35) = w' := ⟨_, rfl⟩
              have hbn : Below wspy.heap.size wspy wspyx := hwspyx ▸ below_new wspy _
              have HGxspyx : Hid (Bk wspyx gx 35 z30) := by show Bk _ _ _ _; rw [← hwspyx]; exact Bk.at_ wspy _ _ hgx rfl
              have HLx : Hid (w3.heap.size ≤ gx) := by show _ ≤ _; rw [← hgx]; exact HNspy.out.size
              have HNE : Hid (gx ≠ gy) := by show _ ≠ _; have := HGyspy.out.lt; omega
              rw [hgx, hwspyx]
              clear hgx hwspyx
              have HPspyx := Lib.hid (HPspy.out.later hbn)
              have HQspyx := Lib.hid (HQspy.out.later hbn)
              have HRAspyx := Lib.hid (HRAspy.out.later hbn)
              have HRBspyx := Lib.hid (HRBspy.out.later hbn)
              have HXspyx := Lib.hid (HXspy.out.later hbn)
              have HGyspyx := Lib.hid (HGyspy.out.later hbn)
              have HNspyx : Hid (Below w3.heap.size w3 wspyx) := HNspy.out.trans (hbn.mono HNspy.out.size)
              have HMspyx : Hid (Below w.heap.size w wspyx) := below_then HMspy.out hbn
              clear hbn
              refine hK.out _ _ ⟨HPspyx.out, HQspyx.out⟩ (fun hHeld => ?_)
              clear hK K
              try simp only [Act.put, List.setIfInBounds_toArray, List.set_cons_zero, List.set_cons_succ, List.getElem_toArray, List.getElem_cons_zero, List.getElem_cons_succ]
              refine wpAnyH_ready (rs := [3]) (by kernel_rfl) (by simp) ?_
              refine AllReadyH.cons rfl (fun K hK => ?_) ?_
              ·
                go_simp
                go_at_call 17
                refine (ofK HRBspyx.out HMspyx.out).mono ?_
                rintro e wspyxq ⟨⟨cy, rfl, hx⟩, hbn⟩
                have HYspyxq := Lib.hid hx
                clear hx
                have HPspyxq := Lib.hid (HPspyx.out.later hbn)
                have HQspyxq := Lib.hid (HQspyx.out.later hbn)
                have HRAspyxq := Lib.hid (HRAspyx.out.later hbn)
                have HRBspyxq := Lib.hid (HRBspyx.out.later hbn)
                have HXspyxq := Lib.hid (HXspyx.out.later hbn)
                have HGyspyxq := Lib.hid (HGyspyx.out.later hbn)
                have HGxspyxq := Lib.hid (HGxspyx.out.later hbn)
                have HNspyxq : Hid (Below w3.heap.size w3 wspyxq) := HNspyx.out.trans (hbn.mono HNspyx.out.size)
                have HMspyxq : Hid (Below w.heap.size w wspyxq) := below_then HMspyx.out hbn
                clear hbn
                refine hK.out _ _ ⟨HPspyxq.out, HQspyxq.out⟩ (fun hHeld => ?_)
                clear hK K
                try simp only [Act.put, List.setIfInBounds_toArray, List.set_cons_zero, List.set_cons_succ, List.getElem_toArray, List.getElem_cons_zero, List.getElem_cons_succ]
                refine wpAnyH_ready (rs := [6]) (by kernel_rfl) (by simp) ?_
                refine AllReadyH.cons rfl (fun K hK => ?_) AllReadyH.nil
                rw [if_pos (by rfl)]
                refine wp_store_part _ _ _ rfl gx 0 _ (cx) rfl rfl rfl _ ([]) (z30) ([]) (by simpa using HGxspyxq.out) rfl (by rw [HXspyxq.out.len]; rfl) (HXspyxq.out.info) HXspyxq.out.one ?_
                intro wy hp
                refine hK.out _ _ ⟨HPspyxq.out.grown hp.only (by intro h; injection h with h; have := HLx.out; have := HZL.out; omega), HQspyxq.out.grown hp.only (by intro h; injection h with h; have := HLx.out; have := HZL.out; omega)⟩ (fun hHeld => ?_)
                clear hK K
                try simp only [Act.put, List.setIfInBounds_toArray, List.set_cons_zero, List.set_cons_succ, List.getElem_toArray, List.getElem_cons_zero, List.getElem_cons_succ]
                have HPy := hHeld.1; have HQy := hHeld.2
                refine wpAnyH_ready (rs := [7]) (by kernel_rfl) (by simp) ?_
                refine AllReadyH.cons rfl (fun K hK => ?_) AllReadyH.nil
                rw [if_pos (by rfl)]
                refine wp_store_part _ _ _ rfl gy 0 _ (cy) rfl rfl rfl _ ([]) (z30) ([]) (by have := HGyspyxq.out.grown hp.only (by intro h; injection h with h; exact HNE.out h.symm); simpa using this) rfl (by rw [HYspyxq.out.len]; rfl) (HYspyxq.out.info) HYspyxq.out.one ?_
                intro wz hp2
                refine hK.out _ _ ⟨HPy.grown hp2.only (by intro h; injection h with h; have := HLy.out; have := HZL.out; omega), HQy.grown hp2.only (by intro h; injection h with h; have := HLy.out; have := HZL.out; omega)⟩ (fun hHeld => ?_)
                clear hK K
                try simp only [Act.put, List.setIfInBounds_toArray, List.set_cons_zero, List.set_cons_succ, List.getElem_toArray, List.getElem_cons_zero, List.getElem_cons_succ]
                refine wpAnyH_done (by kernel_rfl) ?_ _
                have KX : Hid (Bk wz gx 35 cx) := Bk.grown (by have := hp.bk; simpa using this) hp2.only (by intro h; injection h with h; exact HNE.out h)
                have KY : Hid (Bk wz gy 35 cy) := by show Bk _ _ _ _; have := hp2.bk; simpa using this
                have KGy : Hid (Bk wy gy 35 z30) := HGyspyxq.out.grown hp.only (by intro h; injection h with h; exact HNE.out h.symm)
                have TX : Hid (ThK w wz cx (toT A)) := (HXspyxq.out.grown hp.only HGxspyxq.out (by decide)).grown hp2.only KGy.out (by decide)
                have TY : Hid (ThK w wz cy (toT B)) := (HYspyxq.out.grown hp.only HGxspyxq.out (by decide)).grown hp2.only KGy.out (by decide)
                have KB : Hid (Below w3.heap.size w3 wz) := below_only (below_only HNspyxq.out hp.only HNspyxq.out.size HLx.out) hp2.only (Nat.le_trans HNspyxq.out.size hp.only.size) HLy.out
                clear hHeld hp hp2 HPy HQy
                go_wp2_with fail
                go_meet
                exact ⟨gx, gy, cx, cy, rfl, rfl, KX.out, KY.out, TX.out, TY.out, HNE.out, ⟨HLx.out, HLy.out⟩, KB.out⟩
              exact AllReadyH.nil
            exact AllReadyH.nil
          exact AllReadyH.nil
        refine AllReadyH.cons rfl (fun K hK => ?_) ?_
        ·
          go_simp
          obtain ⟨gx, hgx⟩ : ∃ g, ws.heap.size = g := ⟨_, rfl⟩
          obtain ⟨wsx, hwsx⟩ : ∃ w', ws.alloc (.cells #[.int .i64 0, .int .u8 0, .int .u8 0, .int .u8 0, .int .u8 0, .int .u8 0, .int .u8 0, .int .u8 0, .int .u8 0, .int .i64 0, .slice none 0 0, .int .u8 0, .int .u8 0, .int .u8 0, .int .u8 0, .int .u8 0, .int .u8 0, .int .u8 0, .int .u8 0, .int .i64 0, .int .u8 0, .int .u8 0, .int .u8 0, .int .u8 0, .int .u8 0, .int .u8 0, .int .u8 0, .int .u8 0, .slice none 0 0, .slice none 0 0] 35) = w' := ⟨_, rfl⟩
          have hbn : Below ws.heap.size ws wsx := hwsx ▸ below_new ws _
          have HGxsx : Hid (Bk wsx gx 35 z30) := by show Bk _ _ _ _; rw [← hwsx]; exact Bk.at_ ws _ _ hgx rfl
          have HLx : Hid (w3.heap.size ≤ gx) := by show _ ≤ _; rw [← hgx]; exact HNs.out.size
          rw [hgx, hwsx]
          clear hgx hwsx
          have HPsx := Lib.hid (HPs.out.later hbn)
          have HQsx := Lib.hid (HQs.out.later hbn)
          have HRAsx := Lib.hid (HRAs.out.later hbn)
          have HRBsx := Lib.hid (HRBs.out.later hbn)
          have HNsx : Hid (Below w3.heap.size w3 wsx) := HNs.out.trans (hbn.mono HNs.out.size)
          have HMsx : Hid (Below w.heap.size w wsx) := below_then HMs.out hbn
          clear hbn
          refine hK.out _ _ ⟨HPsx.out, HQsx.out⟩ (fun hHeld => ?_)
          clear hK K
          try simp only [Act.put, List.setIfInBounds_toArray, List.set_cons_zero, List.set_cons_succ, List.getElem_toArray, List.getElem_cons_zero, List.getElem_cons_succ]
          refine wpAnyH_ready (rs := [1, 5]) (by kernel_rfl) (by simp) ?_
          refine AllReadyH.cons rfl (fun K hK => ?_) ?_
          ·
            go_simp
            go_at_call 17
            refine (ofK HRAsx.out HMsx.out).mono ?_
            rintro e wsxp ⟨⟨cx, rfl, hx⟩, hbn⟩
            have HXsxp := Lib.hid hx
            clear hx
            have HPsxp := Lib.hid (HPsx.out.later hbn)
            have HQsxp := Lib.hid (HQsx.out.later hbn)
            have HRAsxp := Lib.hid (HRAsx.out.later hbn)
            have HRBsxp := Lib.hid (HRBsx.out.later hbn)
            have HGxsxp := Lib.hid (HGxsx.out.later hbn)
            have HNsxp : Hid (Below w3.heap.size w3 wsxp) := HNsx.out.trans (hbn.mono HNsx.out.size)
            have HMsxp : Hid (Below w.heap.size w wsxp) := below_then HMsx.out hbn
            clear hbn
            refine hK.out _ _ ⟨HPsxp.out, HQsxp.out⟩ (fun hHeld => ?_)
            clear hK K
            try simp only [Act.put, List.setIfInBounds_toArray, List.set_cons_zero, List.set_cons_succ, List.getElem_toArray, List.getElem_cons_zero, List.getElem_cons_succ]
            refine wpAnyH_ready (rs := [3, 5]) (by kernel_rfl) (by simp) ?_
            refine AllReadyH.cons rfl (fun K hK => ?_) ?_
            ·
              go_simp
              go_at_call 17
              refine (ofK HRBsxp.out HMsxp.out).mono ?_
              rintro e wsxpq ⟨⟨cy, rfl, hx⟩, hbn⟩
              have HYsxpq := Lib.hid hx
              clear hx
              have HPsxpq := Lib.hid (HPsxp.out.later hbn)
              have HQsxpq := Lib.hid (HQsxp.out.later hbn)
              have HRAsxpq := Lib.hid (HRAsxp.out.later hbn)
              have HRBsxpq := Lib.hid (HRBsxp.out.later hbn)
              have HGxsxpq := Lib.hid (HGxsxp.out.later hbn)
              have HXsxpq := Lib.hid (HXsxp.out.later hbn)
              have HNsxpq : Hid (Below w3.heap.size w3 wsxpq) := HNsxp.out.trans (hbn.mono HNsxp.out.size)
              have HMsxpq : Hid (Below w.heap.size w wsxpq) := below_then HMsxp.out hbn
              clear hbn
              refine hK.out _ _ ⟨HPsxpq.out, HQsxpq.out⟩ (fun hHeld => ?_)
              clear hK K
              try simp only [Act.put, List.setIfInBounds_toArray, List.set_cons_zero, List.set_cons_succ, List.getElem_toArray, List.getElem_cons_zero, List.getElem_cons_succ]
              refine wpAnyH_ready (rs := [5]) (by kernel_rfl) (by simp) ?_
              refine AllReadyH.cons rfl (fun K hK => ?_) ?_
              ·
                go_simp
                obtain ⟨gy, hgy⟩ : ∃ g, wsxpq.heap.size = g := ⟨_, rfl⟩
                obtain ⟨wsxpqy, hwsxpqy⟩ : ∃ w', wsxpq.alloc (.cells #[.int .i64 0, .int .u8 0, .int .u8 0, .int .u8 0, .int .u8 0, .int .u8 0, .int .u8 0, .int .u8 0, .int .u8 0, .int .i64 0, .slice none 0 0, .int .u8 0, .int .u8 0, .int .u8 0, .int .u8 0, .int .u8 0, .int .u8 0, .int .u8 0, .int .u8 0, .int .i64 0, .int .u8 0, .int .u8 0, .int .u8 0, .int .u8 0, .int .u8 0, .int .u8 0, .int .u8 0, .int .u8 0, .slice none 0 0, .slice none 0 0] 35) = w' := ⟨_, rfl⟩
                have hbn : Below wsxpq.heap.size wsxpq wsxpqy := hwsxpqy ▸ below_new wsxpq _
                have HGysxpqy : Hid (Bk wsxpqy gy 35 z30) := by show Bk _ _ _ _; rw [← hwsxpqy]; exact Bk.at_ wsxpq _ _ hgy rfl
                have HLy : Hid (w3.heap.size ≤ gy) := by show _ ≤ _; rw [← hgy]; exact HNsxpq.out.size
                have HNE : Hid (gx ≠ gy) := by show _ ≠ _; have := HGxsxpq.out.lt; omega
                rw [hgy, hwsxpqy]
                clear hgy hwsxpqy
                have HPsxpqy := Lib.hid (HPsxpq.out.later hbn)
                have HQsxpqy := Lib.hid (HQsxpq.out.later hbn)
                have HRAsxpqy := Lib.hid (HRAsxpq.out.later hbn)
                have HRBsxpqy := Lib.hid (HRBsxpq.out.later hbn)
                have HGxsxpqy := Lib.hid (HGxsxpq.out.later hbn)
                have HXsxpqy := Lib.hid (HXsxpq.out.later hbn)
                have HYsxpqy := Lib.hid (HYsxpq.out.later hbn)
                have HNsxpqy : Hid (Below w3.heap.size w3 wsxpqy) := HNsxpq.out.trans (hbn.mono HNsxpq.out.size)
                have HMsxpqy : Hid (Below w.heap.size w wsxpqy) := below_then HMsxpq.out hbn
                clear hbn
                refine hK.out _ _ ⟨HPsxpqy.out, HQsxpqy.out⟩ (fun hHeld => ?_)
                clear hK K
                try simp only [Act.put, List.setIfInBounds_toArray, List.set_cons_zero, List.set_cons_succ, List.getElem_toArray, List.getElem_cons_zero, List.getElem_cons_succ]
                refine wpAnyH_ready (rs := [6]) (by kernel_rfl) (by simp) ?_
                refine AllReadyH.cons rfl (fun K hK => ?_) AllReadyH.nil
                rw [if_pos (by rfl)]
                refine wp_store_part _ _ _ rfl gx 0 _ (cx) rfl rfl rfl _ ([]) (z30) ([]) (by simpa using HGxsxpqy.out) rfl (by rw [HXsxpqy.out.len]; rfl) (HXsxpqy.out.info) HXsxpqy.out.one ?_
                intro wy hp
                refine hK.out _ _ ⟨HPsxpqy.out.grown hp.only (by intro h; injection h with h; have := HLx.out; have := HZL.out; omega), HQsxpqy.out.grown hp.only (by intro h; injection h with h; have := HLx.out; have := HZL.out; omega)⟩ (fun hHeld => ?_)
                clear hK K
                try simp only [Act.put, List.setIfInBounds_toArray, List.set_cons_zero, List.set_cons_succ, List.getElem_toArray, List.getElem_cons_zero, List.getElem_cons_succ]
                have HPy := hHeld.1; have HQy := hHeld.2
                refine wpAnyH_ready (rs := [7]) (by kernel_rfl) (by simp) ?_
                refine AllReadyH.cons rfl (fun K hK => ?_) AllReadyH.nil
                rw [if_pos (by rfl)]
                refine wp_store_part _ _ _ rfl gy 0 _ (cy) rfl rfl rfl _ ([]) (z30) ([]) (by have := HGysxpqy.out.grown hp.only (by intro h; injection h with h; exact HNE.out h.symm); simpa using this) rfl (by rw [HYsxpqy.out.len]; rfl) (HYsxpqy.out.info) HYsxpqy.out.one ?_
                intro wz hp2
                refine hK.out _ _ ⟨HPy.grown hp2.only (by intro h; injection h with h; have := HLy.out; have := HZL.out; omega), HQy.grown hp2.only (by intro h; injection h with h; have := HLy.out; have := HZL.out; omega)⟩ (fun hHeld => ?_)
                clear hK K
                try simp only [Act.put, List.setIfInBounds_toArray, List.set_cons_zero, List.set_cons_succ, List.getElem_toArray, List.getElem_cons_zero, List.getElem_cons_succ]
                refine wpAnyH_done (by kernel_rfl) ?_ _
                have KX : Hid (Bk wz gx 35 cx) := Bk.grown (by have := hp.bk; simpa using this) hp2.only (by intro h; injection h with h; exact HNE.out h)
                have KY : Hid (Bk wz gy 35 cy) := by show Bk _ _ _ _; have := hp2.bk; simpa using this
                have KGy : Hid (Bk wy gy 35 z30) := HGysxpqy.out.grown hp.only (by intro h; injection h with h; exact HNE.out h.symm)
                have TX : Hid (ThK w wz cx (toT A)) := (HXsxpqy.out.grown hp.only HGxsxpqy.out (by decide)).grown hp2.only KGy.out (by decide)
                have TY : Hid (ThK w wz cy (toT B)) := (HYsxpqy.out.grown hp.only HGxsxpqy.out (by decide)).grown hp2.only KGy.out (by decide)
                have KB : Hid (Below w3.heap.size w3 wz) := below_only (below_only HNsxpqy.out hp.only HNsxpqy.out.size HLx.out) hp2.only (Nat.le_trans HNsxpqy.out.size hp.only.size) HLy.out
                clear hHeld hp hp2 HPy HQy
                go_wp2_with fail
                go_meet
                exact ⟨gx, gy, cx, cy, rfl, rfl, KX.out, KY.out, TX.out, TY.out, HNE.out, ⟨HLx.out, HLy.out⟩, KB.out⟩
              exact AllReadyH.nil
            refine AllReadyH.cons rfl (fun K hK => ?_) ?_
            ·
              go_simp
              obtain ⟨gy, hgy⟩ : ∃ g, wsxp.heap.size = g := ⟨_, rfl⟩
              obtain ⟨wsxpy, hwsxpy⟩ : ∃ w', wsxp.alloc (.cells #[.int .i64 0, .int .u8 0, .int .u8 0, .int .u8 0, .int .u8 0, .int .u8 0, .int .u8 0, .int .u8 0, .int .u8 0, .int .i64 0, .slice none 0 0, .int .u8 0, .int .u8 0, .int .u8 0, .int .u8 0, .int .u8 0, .int .u8 0, .int .u8 0, .int .u8 0, .int .i64 0, .int .u8 0, .int .u8 0, .int .u8 0, .int .u8 0, .int .u8 0, .int .u8 0, .int .u8 0, .int .u8 0, .slice none 0 0, .slice none 0 0] 35) = w' := ⟨_, rfl⟩
              have hbn : Below wsxp.heap.size wsxp wsxpy := hwsxpy ▸ below_new wsxp _
              have HGysxpy : Hid (Bk wsxpy gy 35 z30) := by show Bk _ _ _ _; rw [← hwsxpy]; exact Bk.at_ wsxp _ _ hgy rfl
              have HLy : Hid (w3.heap.size ≤ gy) := by show _ ≤ _; rw [← hgy]; exact HNsxp.out.size
              have HNE : Hid (gx ≠ gy) := by show _ ≠ _; have := HGxsxp.out.lt; omega
              rw [hgy, hwsxpy]
              clear hgy hwsxpy
              have HPsxpy := Lib.hid (HPsxp.out.later hbn)
              have HQsxpy := Lib.hid (HQsxp.out.later hbn)
              have HRAsxpy := Lib.hid (HRAsxp.out.later hbn)
              have HRBsxpy := Lib.hid (HRBsxp.out.later hbn)
              have HGxsxpy := Lib.hid (HGxsxp.out.later hbn)
              have HXsxpy := Lib.hid (HXsxp.out.later hbn)
              have HNsxpy : Hid (Below w3.heap.size w3 wsxpy) := HNsxp.out.trans (hbn.mono HNsxp.out.size)
              have HMsxpy : Hid (Below w.heap.size w wsxpy) := below_then HMsxp.out hbn
              clear hbn
              refine hK.out _ _ ⟨HPsxpy.out, HQsxpy.out⟩ (fun hHeld => ?_)
              clear hK K
              try simp only [Act.put, List.setIfInBounds_toArray, List.set_cons_zero, List.set_cons_succ, List.getElem_toArray, List.getElem_cons_zero, List.getElem_cons_succ]
              refine wpAnyH_ready (rs := [3]) (by kernel_rfl) (by simp) ?_
              refine AllReadyH.cons rfl (fun K hK => ?_) ?_
              ·
                go_simp
                go_at_call 17
                refine (ofK HRBsxpy.out HMsxpy.out).mono ?_
                rintro e wsxpyq ⟨⟨cy, rfl, hx⟩, hbn⟩
                have HYsxpyq := Lib.hid hx
                clear hx
                have HPsxpyq := Lib.hid (HPsxpy.out.later hbn)
                have HQsxpyq := Lib.hid (HQsxpy.out.later hbn)
                have HRAsxpyq := Lib.hid (HRAsxpy.out.later hbn)
                have HRBsxpyq := Lib.hid (HRBsxpy.out.later hbn)
                have HGxsxpyq := Lib.hid (HGxsxpy.out.later hbn)
                have HXsxpyq := Lib.hid (HXsxpy.out.later hbn)
                have HGysxpyq := Lib.hid (HGysxpy.out.later hbn)
                have HNsxpyq : Hid (Below w3.heap.size w3 wsxpyq) := HNsxpy.out.trans (hbn.mono HNsxpy.out.size)
                have HMsxpyq : Hid (Below w.heap.size w wsxpyq) := below_then HMsxpy.out hbn
                clear hbn
                refine hK.out _ _ ⟨HPsxpyq.out, HQsxpyq.out⟩ (fun hHeld => ?_)
                clear hK K
                try simp only [Act.put, List.setIfInBounds_toArray, List.set_cons_zero, List.set_cons_succ, List.getElem_toArray, List.getElem_cons_zero, List.getElem_cons_succ]
                refine wpAnyH_ready (rs := [6]) (by kernel_rfl) (by simp) ?_
                refine AllReadyH.cons rfl (fun K hK => ?_) AllReadyH.nil
                rw [if_pos (by rfl)]
                refine wp_store_part _ _ _ rfl gx 0 _ (cx) rfl rfl rfl _ ([]) (z30) ([]) (by simpa using HGxsxpyq.out) rfl (by rw [HXsxpyq.out.len]; rfl) (HXsxpyq.out.info) HXsxpyq.out.one ?_
                intro wy hp
                refine hK.out _ _ ⟨HPsxpyq.out.grown hp.only (by intro h; injection h with h; have := HLx.out; have := HZL.out; omega), HQsxpyq.out.grown hp.only (by intro h; injection h with h; have := HLx.out; have := HZL.out; omega)⟩ (fun hHeld => ?_)
                clear hK K
                try simp only [Act.put, List.setIfInBounds_toArray, List.set_cons_zero, List.set_cons_succ, List.getElem_toArray, List.getElem_cons_zero, List.getElem_cons_succ]
                have HPy := hHeld.1; have HQy := hHeld.2
                refine wpAnyH_ready (rs := [7]) (by kernel_rfl) (by simp) ?_
                refine AllReadyH.cons rfl (fun K hK => ?_) AllReadyH.nil
                rw [if_pos (by rfl)]
                refine wp_store_part _ _ _ rfl gy 0 _ (cy) rfl rfl rfl _ ([]) (z30) ([]) (by have := HGysxpyq.out.grown hp.only (by intro h; injection h with h; exact HNE.out h.symm); simpa using this) rfl (by rw [HYsxpyq.out.len]; rfl) (HYsxpyq.out.info) HYsxpyq.out.one ?_
                intro wz hp2
                refine hK.out _ _ ⟨HPy.grown hp2.only (by intro h; injection h with h; have := HLy.out; have := HZL.out; omega), HQy.grown hp2.only (by intro h; injection h with h; have := HLy.out; have := HZL.out; omega)⟩ (fun hHeld => ?_)
                clear hK K
                try simp only [Act.put, List.setIfInBounds_toArray, List.set_cons_zero, List.set_cons_succ, List.getElem_toArray, List.getElem_cons_zero, List.getElem_cons_succ]
                refine wpAnyH_done (by kernel_rfl) ?_ _
                have KX : Hid (Bk wz gx 35 cx) := Bk.grown (by have := hp.bk; simpa using this) hp2.only (by intro h; injection h with h; exact HNE.out h)
                have KY : Hid (Bk wz gy 35 cy) := by show Bk _ _ _ _; have := hp2.bk; simpa using this
                have KGy : Hid (Bk wy gy 35 z30) := HGysxpyq.out.grown hp.only (by intro h; injection h with h; exact HNE.out h.symm)
                have TX : Hid (ThK w wz cx (toT A)) := (HXsxpyq.out.grown hp.only HGxsxpyq.out (by decide)).grown hp2.only KGy.out (by decide)
                have TY : Hid (ThK w wz cy (toT B)) := (HYsxpyq.out.grown hp.only HGxsxpyq.out (by decide)).grown hp2.only KGy.out (by decide)
                have KB : Hid (Below w3.heap.size w3 wz) := below_only (below_only HNsxpyq.out hp.only HNsxpyq.out.size HLx.out) hp2.only (Nat.le_trans HNsxpyq.out.size hp.only.size) HLy.out
                clear hHeld hp hp2 HPy HQy
                go_wp2_with fail
                go_meet
                exact ⟨gx, gy, cx, cy, rfl, rfl, KX.out, KY.out, TX.out, TY.out, HNE.out, ⟨HLx.out, HLy.out⟩, KB.out⟩
              exact AllReadyH.nil
            exact AllReadyH.nil
          refine AllReadyH.cons rfl (fun K hK => ?_) ?_
          ·
            go_simp
            obtain ⟨gy, hgy⟩ : ∃ g, wsx.heap.size = g := ⟨_, rfl⟩
            obtain ⟨wsxy, hwsxy⟩ : ∃ w', wsx.alloc (.cells #[.int .i64 0, .int .u8 0, .int .u8 0, .int .u8 0, .int .u8 0, .int .u8 0, .int .u8 0, .int .u8 0, .int .u8 0, .int .i64 0, .slice none 0 0, .int .u8 0, .int .u8 0, .int .u8 0, .int .u8 0, .int .u8 0, .int .u8 0, .int .u8 0, .int .u8 0, .int .i64 0, .int .u8 0, .int .u8 0, .int .u8 0, .int .u8 0, .int .u8 0, .int .u8 0, .int .u8 0, .int .u8 0, .slice none 0 0, .slice none 0 0] 35) = w' := ⟨_, rfl⟩
            have hbn : Below wsx.heap.size wsx wsxy := hwsxy ▸ below_new wsx _
            have HGysxy : Hid (Bk wsxy gy 35 z30) := by show Bk _ _ _ _; rw [← hwsxy]; exact Bk.at_ wsx _ _ hgy rfl
            have HLy : Hid (w3.heap.size ≤ gy) := by show _ ≤ _; rw [← hgy]; exact HNsx.out.size
            have HNE : Hid (gx ≠ gy) := by show _ ≠ _; have := HGxsx.out.lt; omega
            rw [hgy, hwsxy]
            clear hgy hwsxy
            have HPsxy := Lib.hid (HPsx.out.later hbn)
            have HQsxy := Lib.hid (HQsx.out.later hbn)
            have HRAsxy := Lib.hid (HRAsx.out.later hbn)
            have HRBsxy := Lib.hid (HRBsx.out.later hbn)
            have HGxsxy := Lib.hid (HGxsx.out.later hbn)
            have HNsxy : Hid (Below w3.heap.size w3 wsxy) := HNsx.out.trans (hbn.mono HNsx.out.size)
            have HMsxy : Hid (Below w.heap.size w wsxy) := below_then HMsx.out hbn
            clear hbn
            refine hK.out _ _ ⟨HPsxy.out, HQsxy.out⟩ (fun hHeld => ?_)
            clear hK K
            try simp only [Act.put, List.setIfInBounds_toArray, List.set_cons_zero, List.set_cons_succ, List.getElem_toArray, List.getElem_cons_zero, List.getElem_cons_succ]
            refine wpAnyH_ready (rs := [1]) (by kernel_rfl) (by simp) ?_
            refine AllReadyH.cons rfl (fun K hK => ?_) ?_
            ·
              go_simp
              go_at_call 17
              refine (ofK HRAsxy.out HMsxy.out).mono ?_
              rintro e wsxyp ⟨⟨cx, rfl, hx⟩, hbn⟩
              have HXsxyp := Lib.hid hx
              clear hx
              have HPsxyp := Lib.hid (HPsxy.out.later hbn)
              have HQsxyp := Lib.hid (HQsxy.out.later hbn)
              have HRAsxyp := Lib.hid (HRAsxy.out.later hbn)
              have HRBsxyp := Lib.hid (HRBsxy.out.later hbn)
              have HGxsxyp := Lib.hid (HGxsxy.out.later hbn)
              have HGysxyp := Lib.hid (HGysxy.out.later hbn)
              have HNsxyp : Hid (Below w3.heap.size w3 wsxyp) := HNsxy.out.trans (hbn.mono HNsxy.out.size)
              have HMsxyp : Hid (Below w.heap.size w wsxyp) := below_then HMsxy.out hbn
              clear hbn
              refine hK.out _ _ ⟨HPsxyp.out, HQsxyp.out⟩ (fun hHeld => ?_)
              clear hK K
              try simp only [Act.put, List.setIfInBounds_toArray, List.set_cons_zero, List.set_cons_succ, List.getElem_toArray, List.getElem_cons_zero, List.getElem_cons_succ]
              refine wpAnyH_ready (rs := [3]) (by kernel_rfl) (by simp) ?_
              refine AllReadyH.cons rfl (fun K hK => ?_) ?_
              ·
                go_simp
                go_at_call 17
                refine (ofK HRBsxyp.out HMsxyp.out).mono ?_
                rintro e wsxypq ⟨⟨cy, rfl, hx⟩, hbn⟩
                have HYsxypq := Lib.hid hx
                clear hx
                have HPsxypq := Lib.hid (HPsxyp.out.later hbn)
                have HQsxypq := Lib.hid (HQsxyp.out.later hbn)
                have HRAsxypq := Lib.hid (HRAsxyp.out.later hbn)
                have HRBsxypq := Lib.hid (HRBsxyp.out.later hbn)
                have HGxsxypq := Lib.hid (HGxsxyp.out.later hbn)
                have HGysxypq := Lib.hid (HGysxyp.out.later hbn)
                have HXsxypq := Lib.hid (HXsxyp.out.later hbn)
                have HNsxypq : Hid (Below w3.heap.size w3 wsxypq) := HNsxyp.out.trans (hbn.mono HNsxyp.out.size)
                have HMsxypq : Hid (Below w.heap.size w wsxypq) := below_then HMsxyp.out hbn
                clear hbn
                refine hK.out _ _ ⟨HPsxypq.out, HQsxypq.out⟩ (fun hHeld => ?_)
                clear hK K
                try simp only [Act.put, List.setIfInBounds_toArray, List.set_cons_zero, List.set_cons_succ, List.getElem_toArray, List.getElem_cons_zero, List.getElem_cons_succ]
                refine wpAnyH_ready (rs := [6]) (by kernel_rfl) (by simp) ?_
                refine AllReadyH.cons rfl (fun K hK => ?_) AllReadyH.nil
                rw [if_pos (by rfl)]
                refine wp_store_part _ _ _ rfl gx 0 _ (cx) rfl rfl rfl _ ([]) (z30) ([]) (by simpa using HGxsxypq.out) rfl (by rw [HXsxypq.out.len]; rfl) (HXsxypq.out.info) HXsxypq.out.one ?_
                intro wy hp
                refine hK.out _ _ ⟨HPsxypq.out.grown hp.only (by intro h; injection h with h; have := HLx.out; have := HZL.out; omega), HQsxypq.out.grown hp.only (by intro h; injection h with h; have := HLx.out; have := HZL.out; omega)⟩ (fun hHeld => ?_)
                clear hK K
                try simp only [Act.put, List.setIfInBounds_toArray, List.set_cons_zero, List.set_cons_succ, List.getElem_toArray, List.getElem_cons_zero, List.getElem_cons_succ]
                have HPy := hHeld.1; have HQy := hHeld.2
                refine wpAnyH_ready (rs := [7]) (by kernel_rfl) (by simp) ?_
                refine AllReadyH.cons rfl (fun K hK => ?_) AllReadyH.nil
                rw [if_pos (by rfl)]
                refine wp_store_part _ _ _ rfl gy 0 _ (cy) rfl rfl rfl _ ([]) (z30) ([]) (by have := HGysxypq.out.grown hp.only (by intro h; injection h with h; exact HNE.out h.symm); simpa using this) rfl (by rw [HYsxypq.out.len]; rfl) (HYsxypq.out.info) HYsxypq.out.one ?_
                intro wz hp2
                refine hK.out _ _ ⟨HPy.grown hp2.only (by intro h; injection h with h; have := HLy.out; have := HZL.out; omega), HQy.grown hp2.only (by intro h; injection h with h; have := HLy.out; have := HZL.out; omega)⟩ (fun hHeld => ?_)
                clear hK K
                try simp only [Act.put, List.setIfInBounds_toArray, List.set_cons_zero, List.set_cons_succ, List.getElem_toArray, List.getElem_cons_zero, List.getElem_cons_succ]
                refine wpAnyH_done (by kernel_rfl) ?_ _
                have KX : Hid (Bk wz gx 35 cx) := Bk.grown (by have := hp.bk; simpa using this) hp2.only (by intro h; injection h with h; exact HNE.out h)
                have KY : Hid (Bk wz gy 35 cy) := by show Bk _ _ _ _; have := hp2.bk; simpa using this
                have KGy : Hid (Bk wy gy 35 z30) := HGysxypq.out.grown hp.only (by intro h; injection h with h; exact HNE.out h.symm)
                have TX : Hid (ThK w wz cx (toT A)) := (HXsxypq.out.grown hp.only HGxsxypq.out (by decide)).grown hp2.only KGy.out (by decide)
                have TY : Hid (ThK w wz cy (toT B)) := (HYsxypq.out.grown hp.only HGxsxypq.out (by decide)).grown hp2.only KGy.out (by decide)
                have KB : Hid (Below w3.heap.size w3 wz) := below_only (below_only HNsxypq.out hp.only HNsxypq.out.size HLx.out) hp2.only (Nat.le_trans HNsxypq.out.size hp.only.size) HLy.out
                clear hHeld hp hp2 HPy HQy
                go_wp2_with fail
                go_meet
                exact ⟨gx, gy, cx, cy, rfl, rfl, KX.out, KY.out, TX.out, TY.out, HNE.out, ⟨HLx.out, HLy.out⟩, KB.out⟩
              exact AllReadyH.nil
            exact AllReadyH.nil
          exact AllReadyH.nil
        refine AllReadyH.cons rfl (fun K hK => ?_) ?_
        ·
          go_simp
          obtain ⟨gy, hgy⟩ : ∃ g, ws.heap.size = g := ⟨_, rfl⟩
          obtain ⟨wsy, hwsy⟩ : ∃ w', ws.alloc (.cells #[.int .i64 0, .int .u8 0, .int .u8 0, .int .u8 0, .int .u8 0, .int .u8 0, .int .u8 0, .int .u8 0, .int .u8 0, .int .i64 0, .slice none 0 0, .int .u8 0, .int .u8 0, .int .u8 0, .int .u8 0, .int .u8 0, .int .u8 0, .int .u8 0, .int .u8 0, .int .i64 0, .int .u8 0, .int .u8 0, .int .u8 0, .int .u8 0, .int .u8 0, .int .u8 0, .int .u8 0, .int .u8 0, .slice none 0 0, .slice none 0 0] 35) = w' := ⟨_, rfl⟩
          have hbn : Below ws.heap.size ws wsy := hwsy ▸ below_new ws _
          have HGysy : Hid (Bk wsy gy 35 z30) := by show Bk _ _ _ _; rw [← hwsy]; exact Bk.at_ ws _ _ hgy rfl
          have HLy : Hid (w3.heap.size ≤ gy) := by show _ ≤ _; rw [← hgy]; exact HNs.out.size
          rw [hgy, hwsy]
          clear hgy hwsy
          have HPsy := Lib.hid (HPs.out.later hbn)
          have HQsy := Lib.hid (HQs.out.later hbn)
          have HRAsy := Lib.hid (HRAs.out.later hbn)
          have HRBsy := Lib.hid (HRBs.out.later hbn)
          have HNsy : Hid (Below w3.heap.size w3 wsy) := HNs.out.trans (hbn.mono HNs.out.size)
          have HMsy : Hid (Below w.heap.size w wsy) := below_then HMs.out hbn
          clear hbn
          refine hK.out _ _ ⟨HPsy.out, HQsy.out⟩ (fun hHeld => ?_)
          clear hK K
          try simp only [Act.put, List.setIfInBounds_toArray, List.set_cons_zero, List.set_cons_succ, List.getElem_toArray, List.getElem_cons_zero, List.getElem_cons_succ]
          refine wpAnyH_ready (rs := [1, 4]) (by kernel_rfl) (by simp) ?_
          refine AllReadyH.cons rfl (fun K hK => ?_) ?_
          ·
            go_simp
            go_at_call 17
            refine (ofK HRAsy.out HMsy.out).mono ?_
            rintro e wsyp ⟨⟨cx, rfl, hx⟩, hbn⟩
            have HXsyp := Lib.hid hx
            clear hx
            have HPsyp := Lib.hid (HPsy.out.later hbn)
            have HQsyp := Lib.hid (HQsy.out.later hbn)
            have HRAsyp := Lib.hid (HRAsy.out.later hbn)
            have HRBsyp := Lib.hid (HRBsy.out.later hbn)
            have HGysyp := Lib.hid (HGysy.out.later hbn)
            have HNsyp : Hid (Below w3.heap.size w3 wsyp) := HNsy.out.trans (hbn.mono HNsy.out.size)
            have HMsyp : Hid (Below w.heap.size w wsyp) := below_then HMsy.out hbn
            clear hbn
            refine hK.out _ _ ⟨HPsyp.out, HQsyp.out⟩ (fun hHeld => ?_)
            clear hK K
            try simp only [Act.put, List.setIfInBounds_toArray, List.set_cons_zero, List.set_cons_succ, List.getElem_toArray, List.getElem_cons_zero, List.getElem_cons_succ]
            refine wpAnyH_ready (rs := [3, 4]) (by kernel_rfl) (by simp) ?_
            refine AllReadyH.cons rfl (fun K hK => ?_) ?_
            ·
              go_simp
              go_at_call 17
              refine (ofK HRBsyp.out HMsyp.out).mono ?_
              rintro e wsypq ⟨⟨cy, rfl, hx⟩, hbn⟩
              have HYsypq := Lib.hid hx
              clear hx
              have HPsypq := Lib.hid (HPsyp.out.later hbn)
              have HQsypq := Lib.hid (HQsyp.out.later hbn)
              have HRAsypq := Lib.hid (HRAsyp.out.later hbn)
              have HRBsypq := Lib.hid (HRBsyp.out.later hbn)
              have HGysypq := Lib.hid (HGysyp.out.later hbn)
              have HXsypq := Lib.hid (HXsyp.out.later hbn)
              have HNsypq : Hid (Below w3.heap.size w3 wsypq) := HNsyp.out.trans (hbn.mono HNsyp.out.size)
              have HMsypq : Hid (Below w.heap.size w wsypq) := below_then HMsyp.out hbn
              clear hbn
              refine hK.out _ _ ⟨HPsypq.out, HQsypq.out⟩ (fun hHeld => ?_)
              clear hK K
              try simp only [Act.put, List.setIfInBounds_toArray, List.set_cons_zero, List.set_cons_succ, List.getElem_toArray, List.getElem_cons_zero, List.getElem_cons_succ]
              refine wpAnyH_ready (rs := [4]) (by kernel_rfl) (by simp) ?_
              refine AllReadyH.cons rfl (fun K hK => ?_) ?_
              ·
                go_simp
                obtain ⟨gx, hgx⟩ : ∃ g, wsypq.heap.size = g := ⟨_, rfl⟩
                obtain ⟨wsypqx, hwsypqx⟩ : ∃ w', wsypq.alloc (.cells #[.int .i64 0, .int .u8 0, .int .u8 0, .int .u8 0, .int .u8 0, .int .u8 0, .int .u8 0, .int .u8 0, .int .u8 0, .int .i64 0, .slice none 0 0, .int .u8 0, .int .u8 0, .int .u8 0, .int .u8 0, .int .u8 0, .int .u8 0, .int .u8 0, .int .u8 0, .int .i64 0, .int .u8 0, .int .u8 0, .int .u8 0, .int .u8 0, .int .u8 0, .int .u8 0, .int .u8 0, .int .u8 0, .slice none 0 0, .slice none 0 0] 35) = w' := ⟨_, rfl⟩
                have hbn : Below wsypq.heap.size wsypq wsypqx := hwsypqx ▸ below_new wsypq _
                have HGxsypqx : Hid (Bk wsypqx gx 35 z30) := by show Bk _ _ _ _; rw [← hwsypqx]; exact Bk.at_ wsypq _ _ hgx rfl
                have HLx : Hid (w3.heap.size ≤ gx) := by show _ ≤ _; rw [← hgx]; exact HNsypq.out.size
                have HNE : Hid (gx ≠ gy) := by show _ ≠ _; have := HGysypq.out.lt; omega
                rw [hgx, hwsypqx]
                clear hgx hwsypqx
                have HPsypqx := Lib.hid (HPsypq.out.later hbn)
                have HQsypqx := Lib.hid (HQsypq.out.later hbn)
                have HRAsypqx := Lib.hid (HRAsypq.out.later hbn)
                have HRBsypqx := Lib.hid (HRBsypq.out.later hbn)
                have HGysypqx := Lib.hid (HGysypq.out.later hbn)
                have HXsypqx := Lib.hid (HXsypq.out.later hbn)
                have HYsypqx := Lib.hid (HYsypq.out.later hbn)
                have HNsypqx : Hid (Below w3.heap.size w3 wsypqx) := HNsypq.out.trans (hbn.mono HNsypq.out.size)
                have HMsypqx : Hid (Below w.heap.size w wsypqx) := below_then HMsypq.out hbn
                clear hbn
                refine hK.out _ _ ⟨HPsypqx.out, HQsypqx.out⟩ (fun hHeld => ?_)
                clear hK K
                try simp only [Act.put, List.setIfInBounds_toArray, List.set_cons_zero, List.set_cons_succ, List.getElem_toArray, List.getElem_cons_zero, List.getElem_cons_succ]
                refine wpAnyH_ready (rs := [6]) (by kernel_rfl) (by simp) ?_
                refine AllReadyH.cons rfl (fun K hK => ?_) AllReadyH.nil
                rw [if_pos (by rfl)]
                refine wp_store_part _ _ _ rfl gx 0 _ (cx) rfl rfl rfl _ ([]) (z30) ([]) (by simpa using HGxsypqx.out) rfl (by rw [HXsypqx.out.len]; rfl) (HXsypqx.out.info) HXsypqx.out.one ?_
                intro wy hp
                refine hK.out _ _ ⟨HPsypqx.out.grown hp.only (by intro h; injection h with h; have := HLx.out; have := HZL.out; omega), HQsypqx.out.grown hp.only (by intro h; injection h with h; have := HLx.out; have := HZL.out; omega)⟩ (fun hHeld => ?_)
                clear hK K
                try simp only [Act.put, List.setIfInBounds_toArray, List.set_cons_zero, List.set_cons_succ, List.getElem_toArray, List.getElem_cons_zero, List.getElem_cons_succ]
                have HPy := hHeld.1; have HQy := hHeld.2
                refine wpAnyH_ready (rs := [7]) (by kernel_rfl) (by simp) ?_
                refine AllReadyH.cons rfl (fun K hK => ?_) AllReadyH.nil
                rw [if_pos (by rfl)]
                refine wp_store_part _ _ _ rfl gy 0 _ (cy) rfl rfl rfl _ ([]) (z30) ([]) (by have := HGysypqx.out.grown hp.only (by intro h; injection h with h; exact HNE.out h.symm); simpa using this) rfl (by rw [HYsypqx.out.len]; rfl) (HYsypqx.out.info) HYsypqx.out.one ?_
                intro wz hp2
                refine hK.out _ _ ⟨HPy.grown hp2.only (by intro h; injection h with h; have := HLy.out; have := HZL.out; omega), HQy.grown hp2.only (by intro h; injection h with h; have := HLy.out; have := HZL.out; omega)⟩ (fun hHeld => ?_)
                clear hK K
                try simp only [Act.put, List.setIfInBounds_toArray, List.set_cons_zero, List.set_cons_succ, List.getElem_toArray, List.getElem_cons_zero, List.getElem_cons_succ]
                refine wpAnyH_done (by kernel_rfl) ?_ _
                have KX : Hid (Bk wz gx 35 cx) := Bk.grown (by have := hp.bk; simpa using this) hp2.only (by intro h; injection h with h; exact HNE.out h)
                have KY : Hid (Bk wz gy 35 cy) := by show Bk _ _ _ _; have := hp2.bk; simpa using this
                have KGy : Hid (Bk wy gy 35 z30) := HGysypqx.out.grown hp.only (by intro h; injection h with h; exact HNE.out h.symm)
                have TX : Hid (ThK w wz cx (toT A)) := (HXsypqx.out.grown hp.only HGxsypqx.out (by decide)).grown hp2.only KGy.out (by decide)
                have TY : Hid (ThK w wz cy (toT B)) := (HYsypqx.out.grown hp.only HGxsypqx.out (by decide)).grown hp2.only KGy.out (by decide)
                have KB : Hid (Below w3.heap.size w3 wz) := below_only (below_only HNsypqx.out hp.only HNsypqx.out.size HLx.out) hp2.only (Nat.le_trans HNsypqx.out.size hp.only.size) HLy.out
                clear hHeld hp hp2 HPy HQy
                go_wp2_with fail
                go_meet
                exact ⟨gx, gy, cx, cy, rfl, rfl, KX.out, KY.out, TX.out, TY.out, HNE.out, ⟨HLx.out, HLy.out⟩, KB.out⟩
              exact AllReadyH.nil
            refine AllReadyH.cons rfl (fun K hK => ?_) ?_
            ·
              go_simp
              obtain ⟨gx, hgx⟩ : ∃ g, wsyp.heap.size = g := ⟨_, rfl⟩
              obtain ⟨wsypx, hwsypx⟩ : ∃ w', wsyp.alloc (.cells #[.int .i64 0, .int .u8 0, .int .u8 0, .int .u8 0, .int .u8 0, .int .u8 0, .int .u8 0, .int .u8 0, .int .u8 0, .int .i64 0, .slice none 0 0, .int .u8 0, .int .u8 0, .int .u8 0, .int .u8 0, .int .u8 0, .int .u8 0, .int .u8 0, .int .u8 0, .int .i64 0, .int .u8 0, .int .u8 0, .int .u8 0, .int .u8 0, .int .u8 0, .int .u8 0, .int .u8 0, .int .u8 0, .slice none 0 0, .slice none 0 0] 35) = w' := ⟨_, rfl⟩
              have hbn : Below wsyp.heap.size wsyp wsypx := hwsypx ▸ below_new wsyp _
              have HGxsypx : Hid (Bk wsypx gx 35 z30) := by show Bk _ _ _ _; rw [← hwsypx]; exact Bk.at_ wsyp _ _ hgx rfl
              have HLx : Hid (w3.heap.size ≤ gx) := by show _ ≤ _; rw [← hgx]; exact HNsyp.out.size
              have HNE : Hid (gx ≠ gy) := by show _ ≠ _; have := HGysyp.out.lt; omega
              rw [hgx, hwsypx]
              clear hgx hwsypx
              have HPsypx := Lib.hid (HPsyp.out.later hbn)
              have HQsypx := Lib.hid (HQsyp.out.later hbn)
              have HRAsypx := Lib.hid (HRAsyp.out.later hbn)
              have HRBsypx := Lib.hid (HRBsyp.out.later hbn)
              have HGysypx := Lib.hid (HGysyp.out.later hbn)
              have HXsypx := Lib.hid (HXsyp.out.later hbn)
              have HNsypx : Hid (Below w3.heap.size w3 wsypx) := HNsyp.out.trans (hbn.mono HNsyp.out.size)
              have HMsypx : Hid (Below w.heap.size w wsypx) := below_then HMsyp.out hbn
              clear hbn
              refine hK.out _ _ ⟨HPsypx.out, HQsypx.out⟩ (fun hHeld => ?_)
              clear hK K
              try simp only [Act.put, List.setIfInBounds_toArray, List.set_cons_zero, List.set_cons_succ, List.getElem_toArray, List.getElem_cons_zero, List.getElem_cons_succ]
              refine wpAnyH_ready (rs := [3]) (by kernel_rfl) (by simp) ?_
              refine AllReadyH.cons rfl (fun K hK => ?_) ?_
              ·
                go_simp
                go_at_call 17
                refine (ofK HRBsypx.out HMsypx.out).mono ?_
                rintro e wsypxq ⟨⟨cy, rfl, hx⟩, hbn⟩
                have HYsypxq := Lib.hid hx
                clear hx
                have HPsypxq := Lib.hid (HPsypx.out.later hbn)
                have HQsypxq := Lib.hid (HQsypx.out.later hbn)
                have HRAsypxq := Lib.hid (HRAsypx.out.later hbn)
                have HRBsypxq := Lib.hid (HRBsypx.out.later hbn)
                have HGysypxq := Lib.hid (HGysypx.out.later hbn)
                have HXsypxq := Lib.hid (HXsypx.out.later hbn)
                have HGxsypxq := Lib.hid (HGxsypx.out.later hbn)
                have HNsypxq : Hid (Below w3.heap.size w3 wsypxq) := HNsypx.out.trans (hbn.mono HNsypx.out.size)
                have HMsypxq : Hid (Below w.heap.size w wsypxq) := below_then HMsypx.out hbn
                clear hbn
                refine hK.out _ _ ⟨HPsypxq.out, HQsypxq.out⟩ (fun hHeld => ?_)
                clear hK K
                try simp only [Act.put, List.setIfInBounds_toArray, List.set_cons_zero, List.set_cons_succ, List.getElem_toArray, List.getElem_cons_zero, List.getElem_cons_succ]
                refine wpAnyH_ready (rs := [6]) (by kernel_rfl) (by simp) ?_
                refine AllReadyH.cons rfl (fun K hK => ?_) AllReadyH.nil
                rw [if_pos (by rfl)]
                refine wp_store_part _ _ _ rfl gx 0 _ (cx) rfl rfl rfl _ ([]) (z30) ([]) (by simpa using HGxsypxq.out) rfl (by rw [HXsypxq.out.len]; rfl) (HXsypxq.out.info) HXsypxq.out.one ?_
                intro wy hp
                refine hK.out _ _ ⟨HPsypxq.out.grown hp.only (by intro h; injection h with h; have := HLx.out; have := HZL.out; omega), HQsypxq.out.grown hp.only (by intro h; injection h with h; have := HLx.out; have := HZL.out; omega)⟩ (fun hHeld => ?_)
                clear hK K
                try simp only [Act.put, List.setIfInBounds_toArray, List.set_cons_zero, List.set_cons_succ, List.getElem_toArray, List.getElem_cons_zero, List.getElem_cons_succ]
                have HPy := hHeld.1; have HQy := hHeld.2
                refine wpAnyH_ready (rs := [7]) (by kernel_rfl) (by simp) ?_
                refine AllReadyH.cons rfl (fun K hK => ?_) AllReadyH.nil
                rw [if_pos (by rfl)]
                refine wp_store_part _ _ _ rfl gy 0 _ (cy) rfl rfl rfl _ ([]) (z30) ([]) (by have := HGysypxq.out.grown hp.only (by intro h; injection h with h; exact HNE.out h.symm); simpa using this) rfl (by rw [HYsypxq.out.len]; rfl) (HYsypxq.out.info) HYsypxq.out.one ?_
                intro wz hp2
                refine hK.out _ _ ⟨HPy.grown hp2.only (by intro h; injection h with h; have := HLy.out; have := HZL.out; omega), HQy.grown hp2.only (by intro h; injection h with h; have := HLy.out; have := HZL.out; omega)⟩ (fun hHeld => ?_)
                clear hK K
                try simp only [Act.put, List.setIfInBounds_toArray, List.set_cons_zero, List.set_cons_succ, List.getElem_toArray, List.getElem_cons_zero, List.getElem_cons_succ]
                refine wpAnyH_done (by kernel_rfl) ?_ _
                have KX : Hid (Bk wz gx 35 cx) := Bk.grown (by have := hp.bk; simpa using this) hp2.only (by intro h; injection h with h; exact HNE.out h)
                have KY : Hid (Bk wz gy 35 cy) := by show Bk _ _ _ _; have := hp2.bk; simpa using this
                have KGy : Hid (Bk wy gy 35 z30) := HGysypxq.out.grown hp.only (by intro h; injection h with h; exact HNE.out h.symm)
                have TX : Hid (ThK w wz cx (toT A)) := (HXsypxq.out.grown hp.only HGxsypxq.out (by decide)).grown hp2.only KGy.out (by decide)
                have TY : Hid (ThK w wz cy (toT B)) := (HYsypxq.out.grown hp.only HGxsypxq.out (by decide)).grown hp2.only KGy.out (by decide)
                have KB : Hid (Below w3.heap.size w3 wz) := below_only (below_only HNsypxq.out hp.only HNsypxq.out.size HLx.out) hp2.only (Nat.le_trans HNsypxq.out.size hp.only.size) HLy.out
                clear hHeld hp hp2 HPy HQy
                go_wp2_with fail
                go_meet
                exact ⟨gx, gy, cx, cy, rfl, rfl, KX.out, KY.out, TX.out, TY.out, HNE.out, ⟨HLx.out, HLy.out⟩, KB.out⟩
              exact AllReadyH.nil
            exact AllReadyH.nil
          refine AllReadyH.cons rfl (fun K hK => ?_) ?_
          ·
            go_simp
            obtain ⟨gx, hgx⟩ : ∃ g, wsy.heap.size = g := ⟨_, rfl⟩
            obtain ⟨wsyx, hwsyx⟩ : ∃ w', wsy.alloc (.cells #[.int .i64 0, .int .u8 0, .int .u8 0, .int .u8 0, .int .u8 0, .int .u8 0, .int .u8 0, .int .u8 0, .int .u8 0, .int .i64 0, .slice none 0 0, .int .u8 0, .int .u8 0, .int .u8 0, .int .u8 0, .int .u8 0, .int .u8 0, .int .u8 0, .int .u8 0, .int .i64 0, .int .u8 0, .int .u8 0, .int .u8 0, .int .u8 0, .int .u8 0, .int .u8 0, .int .u8 0, .int .u8 0, .slice none 0 0, .slice none 0 0] 35) = w' := ⟨_, rfl⟩
            have hbn : Below wsy.heap.size wsy wsyx := hwsyx ▸ below_new wsy _
            have HGxsyx : Hid (Bk wsyx gx 35 z30) := by show Bk _ _ _ _; rw [← hwsyx]; exact Bk.at_ wsy _ _ hgx rfl
            have HLx : Hid (w3.heap.size ≤ gx) := by show _ ≤ _; rw [← hgx]; exact HNsy.out.size
            have HNE : Hid (gx ≠ gy) := by show _ ≠ _; have := HGysy.out.lt; omega
            rw [hgx, hwsyx]
            clear hgx hwsyx
            have HPsyx := Lib.hid (HPsy.out.later hbn)
            have HQsyx := Lib.hid (HQsy.out.later hbn)
            have HRAsyx := Lib.hid (HRAsy.out.later hbn)
            have HRBsyx := Lib.hid (HRBsy.out.later hbn)
            have HGysyx := Lib.hid (HGysy.out.later hbn)
            have HNsyx : Hid (Below w3.heap.size w3 wsyx) := HNsy.out.trans (hbn.mono HNsy.out.size)
            have HMsyx : Hid (Below w.heap.size w wsyx) := below_then HMsy.out hbn
            clear hbn
            refine hK.out _ _ ⟨HPsyx.out, HQsyx.out⟩ (fun hHeld => ?_)
            clear hK K
            try simp only [Act.put, List.setIfInBounds_toArray, List.set_cons_zero, List.set_cons_succ, List.getElem_toArray, List.getElem_cons_zero, List.getElem_cons_succ]
            refine wpAnyH_ready (rs := [1]) (by kernel_rfl) (by simp) ?_
            refine AllReadyH.cons rfl (fun K hK => ?_) ?_
            ·
              go_simp
              go_at_call 17
              refine (ofK HRAsyx.out HMsyx.out).mono ?_
              rintro e wsyxp ⟨⟨cx, rfl, hx⟩, hbn⟩
              have HXsyxp := Lib.hid hx
              clear hx
              have HPsyxp := Lib.hid (HPsyx.out.later hbn)
              have HQsyxp := Lib.hid (HQsyx.out.later hbn)
              have HRAsyxp := Lib.hid (HRAsyx.out.later hbn)
              have HRBsyxp := Lib.hid (HRBsyx.out.later hbn)
              have HGysyxp := Lib.hid (HGysyx.out.later hbn)
              have HGxsyxp := Lib.hid (HGxsyx.out.later hbn)
              have HNsyxp : Hid (Below w3.heap.size w3 wsyxp) := HNsyx.out.trans (hbn.mono HNsyx.out.size)
              have HMsyxp : Hid (Below w.heap.size w wsyxp) := below_then HMsyx.out hbn
              clear hbn
              refine hK.out _ _ ⟨HPsyxp.out, HQsyxp.out⟩ (fun hHeld => ?_)
              clear hK K
              try simp only [Act.put, List.setIfInBounds_toArray, List.set_cons_zero, List.set_cons_succ, List.getElem_toArray, List.getElem_cons_zero, List.getElem_cons_succ]
              refine wpAnyH_ready (rs := [3]) (by kernel_rfl) (by simp) ?_
              refine AllReadyH.cons rfl (fun K hK => ?_) ?_
              ·
                go_simp
                go_at_call 17
                refine (ofK HRBsyxp.out HMsyxp.out).mono ?_
                rintro e wsyxpq ⟨⟨cy, rfl, hx⟩, hbn⟩
                have HYsyxpq := Lib.hid hx
                clear hx
                have HPsyxpq := Lib.hid (HPsyxp.out.later hbn)
                have HQsyxpq := Lib.hid (HQsyxp.out.later hbn)
                have HRAsyxpq := Lib.hid (HRAsyxp.out.later hbn)
                have HRBsyxpq := Lib.hid (HRBsyxp.out.later hbn)
                have HGysyxpq := Lib.hid (HGysyxp.out.later hbn)
                have HGxsyxpq := Lib.hid (HGxsyxp.out.later hbn)
                have HXsyxpq := Lib.hid (HXsyxp.out.later hbn)
                have HNsyxpq : Hid (Below w3.heap.size w3 wsyxpq) := HNsyxp.out.trans (hbn.mono HNsyxp.out.size)
                have HMsyxpq : Hid (Below w.heap.size w wsyxpq) := below_then HMsyxp.out hbn
                clear hbn
                refine hK.out _ _ ⟨HPsyxpq.out, HQsyxpq.out⟩ (fun hHeld => ?_)
                clear hK K
                try simp only [Act.put, List.setIfInBounds_toArray, List.set_cons_zero, List.set_cons_succ, List.getElem_toArray, List.getElem_cons_zero, List.getElem_cons_succ]
                refine wpAnyH_ready (rs := [6]) (by kernel_rfl) (by simp) ?_
                refine AllReadyH.cons rfl (fun K hK => ?_) AllReadyH.nil
                rw [if_pos (by rfl)]
                refine wp_store_part _ _ _ rfl gx 0 _ (cx) rfl rfl rfl _ ([]) (z30) ([]) (by simpa using HGxsyxpq.out) rfl (by rw [HXsyxpq.out.len]; rfl) (HXsyxpq.out.info) HXsyxpq.out.one ?_
                intro wy hp
                refine hK.out _ _ ⟨HPsyxpq.out.grown hp.only (by intro h; injection h with h; have := HLx.out; have := HZL.out; omega), HQsyxpq.out.grown hp.only (by intro h; injection h with h; have := HLx.out; have := HZL.out; omega)⟩ (fun hHeld => ?_)
                clear hK K
                try simp only [Act.put, List.setIfInBounds_toArray, List.set_cons_zero, List.set_cons_succ, List.getElem_toArray, List.getElem_cons_zero, List.getElem_cons_succ]
                have HPy := hHeld.1; have HQy := hHeld.2
                refine wpAnyH_ready (rs := [7]) (by kernel_rfl) (by simp) ?_
                refine AllReadyH.cons rfl (fun K hK => ?_) AllReadyH.nil
                rw [if_pos (by rfl)]
                refine wp_store_part _ _ _ rfl gy 0 _ (cy) rfl rfl rfl _ ([]) (z30) ([]) (by have := HGysyxpq.out.grown hp.only (by intro h; injection h with h; exact HNE.out h.symm); simpa using this) rfl (by rw [HYsyxpq.out.len]; rfl) (HYsyxpq.out.info) HYsyxpq.out.one ?_
                intro wz hp2
                refine hK.out _ _ ⟨HPy.grown hp2.only (by intro h; injection h with h; have := HLy.out; have := HZL.out; omega), HQy.grown hp2.only (by intro h; injection h with h; have := HLy.out; have := HZL.out; omega)⟩ (fun hHeld => ?_)
                clear hK K
                try simp only [Act.put, List.setIfInBounds_toArray, List.set_cons_zero, List.set_cons_succ, List.getElem_toArray, List.getElem_cons_zero, List.getElem_cons_succ]
                refine wpAnyH_done (by kernel_rfl) ?_ _
                have KX : Hid (Bk wz gx 35 cx) := Bk.grown (by have := hp.bk; simpa using this) hp2.only (by intro h; injection h with h; exact HNE.out h)
                have KY : Hid (Bk wz gy 35 cy) := by show Bk _ _ _ _; have := hp2.bk; simpa using this
                have KGy : Hid (Bk wy gy 35 z30) := HGysyxpq.out.grown hp.only (by intro h; injection h with h; exact HNE.out h.symm)
                have TX : Hid (ThK w wz cx (toT A)) := (HXsyxpq.out.grown hp.only HGxsyxpq.out (by decide)).grown hp2.only KGy.out (by decide)
                have TY : Hid (ThK w wz cy (toT B)) := (HYsyxpq.out.grown hp.only HGxsyxpq.out (by decide)).grown hp2.only KGy.out (by decide)
                have KB : Hid (Below w3.heap.size w3 wz) := below_only (below_only HNsyxpq.out hp.only HNsyxpq.out.size HLx.out) hp2.only (Nat.le_trans HNsyxpq.out.size hp.only.size) HLy.out
                clear hHeld hp hp2 HPy HQy
                go_wp2_with fail
                go_meet
                exact ⟨gx, gy, cx, cy, rfl, rfl, KX.out, KY.out, TX.out, TY.out, HNE.out, ⟨HLx.out, HLy.out⟩, KB.out⟩
              exact AllReadyH.nil
            exact AllReadyH.nil
          exact AllReadyH.nil
        exact AllReadyH.nil
      obtain ⟨gx, gy, cx, cy, rfl, rfl, kx, ky, tx, ty, hne, hge, hbn⟩ := hcut
      have hbn := hbn.out
      have HPT4 : Hid (PT w wc z lo g gx gy ca cb cx cy dw y0 y1 y2 A B (toT A) (toT B) []) := ⟨HP3.out.later hbn, HQ3.out.later hbn, HD3.out.later hbn, HY3.out.later hbn, HRA3.out.later hbn, HRB3.out.later hbn, HBK3.out.later hbn, kx.out, ky.out, tx.out, ty.out, below_then HBB3.out hbn, Nat.le_trans HLH3.out hbn.size, HLO.out, hne.out, ⟨Nat.le_trans HLH3.out hge.out.1, Nat.le_trans HLH3.out hge.out.2⟩⟩
      obtain ⟨w4, hw4⟩ : ∃ w4, w4 = wc := ⟨_, rfl⟩
      subst hw4
      clear hbn kx ky tx ty hne hge HP3 HQ3 HD3 HY3 HRA3 HRB3 HBK3 HLH3 HLO
      refine ‹∀ (a : Act) (w : World), Code.wp _ _ _ a w → _› _ _ ?_
      as_aux_lemma =>
        have hc := (three_of HPT4.out.y).1
        have hm : IntKind.u8.wrap (y0.tmod 4) = y0.tmod 4 := by have := HYY.out; rw [wrap_u8', Int.tmod_eq_emod_of_nonneg (by omega)]; omega
        have hv0 : IntKind.i64.wrap y0 = y0 := by have := HYY.out; exact IntWalk.i64_in _ (by omega)
        go_upto_if 50 with fail
        obtain ⟨q0, hq0⟩ : ∃ q, decide (0 < y0.tmod 4) = q := ⟨_, rfl⟩
        rw [hq0]
        clear hc hm hq0
        go_cut [8] (fun v8 wx => v8 = .bool false ∧ ∃ (es : List Ent) (cx' : List Value) (sx : List Int), Hid (es.length ≤ 1) ∧ Hid (PT w wx z lo g gx gy ca cb cx' cy dw y0 y1 y2 A B (toT { A with ss := sx }) (toT B) es))
        case first => as_aux_lemma =>
          cases q0
          · go_wp2_with fail
            go_meet
            exact ⟨rfl, [], cx, A.ss, by show _ ≤ _; simp, HPT4.out⟩
          · go_upto_region 8 with fail
            obtain ⟨prX, aX, nX, cX, hcx, hpx, gX, hsx⟩ := HPT4.out.tx.sig
            have HCX : Hid (cx = prX ++ [.slice aX nX cX]) := hcx
            have HPX := Lib.hid hpx; have HSX := Lib.hid hsx
            clear hcx hpx gX hsx
            refine wp_region_L [(16, fun w' => Bk w' gx 35 cx ∧ Bk w' (z + 3) 48 [.int .u8 y0, .int .u8 y1, .int .u8 y2])] (by kernel_rfl) ⟨fun _ => ⟨Bk.drew HPT4.out.x, Bk.drew HPT4.out.y⟩, trivial⟩ (fun hHeld => ?_)
            have hbd : Below w4.heap.size w4 w4.drew := below_draws w4 w4.heap.size 1
            obtain ⟨wa, hwa⟩ : ∃ wa, w4.drew = wa := ⟨_, rfl⟩
            rw [hwa] at hbd hHeld ⊢
            have HPTa := Lib.hid (HPT4.out.later hbd)
            clear hwa hbd
            refine wpAnyL_take0 (i := 0) (v := ?_) rfl (by kernel_rfl) (by kernel_rfl) (by kernel_rfl) (by rfl) (fun _ _ _ h => h) (Or.inl ⟨by rfl, ?_⟩) hHeld ?_
            rotate_left
            · intro w _
              go_simp
              try with_reducible rfl
            clear hHeld
            intro hHeld
            try simp only [Act.put, List.setIfInBounds_toArray, List.set_cons_zero, List.set_cons_succ, List.getElem_toArray, List.getElem_cons_zero, List.getElem_cons_succ]
            refine wpAnyL_take0 (i := 1) (v := ?_) rfl (by kernel_rfl) (by kernel_rfl) (by kernel_rfl) (by rfl) (fun _ _ _ h => h) (Or.inl ⟨by rfl, ?_⟩) hHeld ?_
            rotate_left
            · intro w _
              go_simp
              try with_reducible rfl
            clear hHeld
            intro hHeld
            try simp only [Act.put, List.setIfInBounds_toArray, List.set_cons_zero, List.set_cons_succ, List.getElem_toArray, List.getElem_cons_zero, List.getElem_cons_succ]
            refine wpAnyL_take (i := 6) 0 rfl rfl (by kernel_rfl) (by kernel_rfl) (by kernel_rfl) (by kernel_rfl) (by kernel_rfl) (by rfl) (fun _ _ _ h => h) (v := .agg (List.toArray (cx))) (yieldsIf_load_mid (by rfl) _ _ rfl _ _ rfl (cx) _ (fun w hSw => (Bk.range (pre := []) (post := []) (by simpa using hSw.1) rfl)) Try.underlying35 rfl (HPTa.out.tx.info)) hHeld ?_
            clear hHeld
            intro hHeld
            try simp only [Act.put, List.setIfInBounds_toArray, List.set_cons_zero, List.set_cons_succ, List.getElem_toArray, List.getElem_cons_zero, List.getElem_cons_succ]
            refine wpAnyL_take (i := 2) 0 rfl rfl (by kernel_rfl) (by kernel_rfl) (by kernel_rfl) (by kernel_rfl) (by kernel_rfl) (by rfl) (fun _ _ _ h => h) (v := ?_) (Or.inl ⟨by rfl, ?_⟩) hHeld ?_
            rotate_left
            · intro w hSw
              have hcell := (three_of hSw.2).1
              clear hSw
              go_simp
              try with_reducible rfl
            clear hHeld
            intro hHeld
            try simp only [Act.put, List.setIfInBounds_toArray, List.set_cons_zero, List.set_cons_succ, List.getElem_toArray, List.getElem_cons_zero, List.getElem_cons_succ]
            refine wpAnyL_take0 (i := 3) (v := ?_) rfl (by kernel_rfl) (by kernel_rfl) (by kernel_rfl) (by rfl) (fun _ _ _ h => h) (Or.inl ⟨by rfl, ?_⟩) hHeld ?_
            rotate_left
            · intro w _
              go_simp
              try with_reducible rfl
            clear hHeld
            intro hHeld
            try simp only [Act.put, List.setIfInBounds_toArray, List.set_cons_zero, List.set_cons_succ, List.getElem_toArray, List.getElem_cons_zero, List.getElem_cons_succ]
            refine wpAnyL_ready (rs := [4]) (by kernel_rfl) (by simp) ?_
            refine AllReadyL.cons rfl (fun K hK => ?_) AllReadyL.nil
            go_simp
            (go_at_call 27; refine (key_any wa y0).mono ?_; rintro e wb ⟨rfl, hbn⟩; have HPTb := Lib.hid (HPTa.out.later hbn); clear hbn)
            refine hK.out _ _ (⟨fun _ => ⟨HPTb.out.x, HPTb.out.y⟩, trivial⟩) (fun hHeld => ?_)
            clear hK K
            try simp only [Act.put, List.setIfInBounds_toArray, List.set_cons_zero, List.set_cons_succ, List.getElem_toArray, List.getElem_cons_zero, List.getElem_cons_succ]
            refine wpAnyL_ready (rs := [5]) (by kernel_rfl) (by simp) ?_
            refine AllReadyL.cons rfl (fun K hK => ?_) AllReadyL.nil
            go_simp
            (go_at_call 26; refine (signer_any wb g (keyD y0) (keyD_ok _)).mono ?_; rintro e wd ⟨rfl, hbn⟩; have HPTd := Lib.hid (HPTb.out.later hbn); clear hbn)
            refine hK.out _ _ (⟨fun _ => ⟨HPTd.out.x, HPTd.out.y⟩, trivial⟩) (fun hHeld => ?_)
            clear hK K
            try simp only [Act.put, List.setIfInBounds_toArray, List.set_cons_zero, List.set_cons_succ, List.getElem_toArray, List.getElem_cons_zero, List.getElem_cons_succ]
            refine wpAnyL_take0 (i := 8) (v := ?_) rfl (by kernel_rfl) (by kernel_rfl) (by kernel_rfl) (by rfl) (fun _ _ _ h => h) (Or.inl ⟨by rfl, ?_⟩) hHeld ?_
            rotate_left
            · intro w _
              go_simp
              try with_reducible rfl
            clear hHeld
            intro hHeld
            try simp only [Act.put, List.setIfInBounds_toArray, List.set_cons_zero, List.set_cons_succ, List.getElem_toArray, List.getElem_cons_zero, List.getElem_cons_succ]
            refine wpAnyL_take0 (i := 9) (v := ?_) rfl (by kernel_rfl) (by kernel_rfl) (by kernel_rfl) (by rfl) (fun _ _ _ h => h) (Or.inl ⟨by rfl, ?_⟩) hHeld ?_
            rotate_left
            · intro w _
              have hcell := nil_wr (wrC g (keyD y0)).toArray
              go_simp
              try with_reducible rfl
            clear hHeld
            intro hHeld
            try simp only [Act.put, List.setIfInBounds_toArray, List.set_cons_zero, List.set_cons_succ, List.getElem_toArray, List.getElem_cons_zero, List.getElem_cons_succ]
            refine wpAnyL_take0 (i := 10) (v := ?_) rfl (by kernel_rfl) (by kernel_rfl) (by kernel_rfl) (by rfl) (fun _ _ _ h => h) (Or.inl ⟨by rfl, ?_⟩) hHeld ?_
            rotate_left
            · intro w _
              go_simp
              try with_reducible rfl
            clear hHeld
            intro hHeld
            try simp only [Act.put, List.setIfInBounds_toArray, List.set_cons_zero, List.set_cons_succ, List.getElem_toArray, List.getElem_cons_zero, List.getElem_cons_succ]
            refine wpAnyL_ready (rs := [7]) (by kernel_rfl) (by simp) ?_
            refine AllReadyL.cons rfl (fun K hK => ?_) AllReadyL.nil
            go_simp
            (go_at_call 28; refine (thDigest (HPTd.out.tx.thg HPTd.out.hb)).mono ?_; rintro e we ⟨rfl, hbn⟩; have HPTe := Lib.hid (HPTd.out.later hbn); clear hbn)
            refine hK.out _ _ (⟨fun _ => ⟨HPTe.out.x, HPTe.out.y⟩, trivial⟩) (fun hHeld => ?_)
            clear hK K
            try simp only [Act.put, List.setIfInBounds_toArray, List.set_cons_zero, List.set_cons_succ, List.getElem_toArray, List.getElem_cons_zero, List.getElem_cons_succ]
            have hmt := meth_wr (wrC g (keyD y0)).toArray
            refine wpAnyL_ready (rs := [11]) (by kernel_rfl) (by simp) ?_
            refine AllReadyL.cons rfl (fun K hK => ?_) AllReadyL.nil
            go_simp
            (refine (wsign_any we lo g [] HPTe.out.bk (keyD y0) (dgT (toT A)) (keyD_ok _) (dgT_ok _) (by simp) HPTe.out.lh).mono ?_; rintro e wf ⟨⟨A7, c7, rfl, hown⟩, hbk7, hb7, hk7⟩; have HPTf := Lib.hid (HPTe.out.sign hk7 hb7 hbk7); have HOW := Lib.hid (own_base hown (Nat.zero_le _)); clear hown hbk7 hb7 hk7 hmt)
            refine hK.out _ _ (⟨fun _ => ⟨HPTf.out.x, HPTf.out.y⟩, trivial⟩) (fun hHeld => ?_)
            clear hK K
            try simp only [Act.put, List.setIfInBounds_toArray, List.set_cons_zero, List.set_cons_succ, List.getElem_toArray, List.getElem_cons_zero, List.getElem_cons_succ]
            refine wpAnyL_take0 (i := 12) (v := ?_) rfl (by kernel_rfl) (by kernel_rfl) (by kernel_rfl) (by rfl) (fun _ _ _ h => h) (Or.inl ⟨by rfl, ?_⟩) hHeld ?_
            rotate_left
            · intro w _
              go_simp
              try with_reducible rfl
            clear hHeld
            intro hHeld
            try simp only [Act.put, List.setIfInBounds_toArray, List.set_cons_zero, List.set_cons_succ, List.getElem_toArray, List.getElem_cons_zero, List.getElem_cons_succ]
            refine wpAnyL_take0 (i := 13) (v := ?_) rfl (by kernel_rfl) (by kernel_rfl) (by kernel_rfl) (by rfl) (fun _ _ _ h => h) (Or.inl ⟨by rfl, ?_⟩) hHeld ?_
            rotate_left
            · intro w _
              go_simp
              try with_reducible rfl
            clear hHeld
            intro hHeld
            try simp only [Act.put, List.setIfInBounds_toArray, List.set_cons_zero, List.set_cons_succ, List.getElem_toArray, List.getElem_cons_zero, List.getElem_cons_succ]
            refine wpAnyL_take0 (i := 14) (v := ?_) rfl (by kernel_rfl) (by kernel_rfl) (by kernel_rfl) (by rfl) (fun _ _ _ h => h) (Or.inl ⟨by rfl, ?_⟩) hHeld ?_
            rotate_left
            · intro w _
              go_simp
              try with_reducible rfl
            clear hHeld
            intro hHeld
            try simp only [Act.put, List.setIfInBounds_toArray, List.set_cons_zero, List.set_cons_succ, List.getElem_toArray, List.getElem_cons_zero, List.getElem_cons_succ]
            refine wpAnyL_take0 (i := 15) (v := ?_) rfl (by kernel_rfl) (by kernel_rfl) (by kernel_rfl) (by rfl) (fun _ _ _ h => h) (Or.inl ⟨by rfl, ?_⟩) hHeld ?_
            rotate_left
            · intro w _
              go_simp
              try with_reducible rfl
            clear hHeld
            intro hHeld
            try simp only [Act.put, List.setIfInBounds_toArray, List.set_cons_zero, List.set_cons_succ, List.getElem_toArray, List.getElem_cons_zero, List.getElem_cons_succ]
            refine wpAnyL_ready (rs := [16]) (by kernel_rfl) (by simp) ?_
            refine AllReadyL.cons rfl (fun K hK => ?_) AllReadyL.nil
            rw [if_pos (by rfl)]
            refine wp_store_part _ _ _ rfl gx 29 _ ([.slice A7 2 c7]) rfl rfl rfl _ (prX) ([.slice aX nX cX]) ([]) (by have := HPTf.out.x; rw [HCX.out] at this; simpa using this) HPX.out rfl (by kernel_rfl) (by intro x hx; simp at hx; subst hx; rfl) ?_
            intro wh hp
            refine hK.out _ _ ⟨fun h => dead h (by kernel_rfl), trivial⟩ (fun hHeld => ?_)
            clear hK K
            try simp only [Act.put, List.setIfInBounds_toArray, List.set_cons_zero, List.set_cons_succ, List.getElem_toArray, List.getElem_cons_zero, List.getElem_cons_succ]
            refine wpAnyL_done (by kernel_rfl) ?_ _
            have HPTh := Lib.hid (HPTf.out.putX (by simpa using hp) (HSX.out wf A7 2 c7 _ HPTf.out.tx (.inr (by simpa using HOW.out)) (sigB_ok (by simp))))
            clear hp hHeld
            go_wp2_with fail
            go_meet
            exact ⟨rfl, bookS [] (keyD y0, dgT (toT A)), prX ++ [.slice A7 2 c7], _, by show _ ≤ _; simp [bookS], (toT_sig A _) ▸ HPTh.out⟩
        obtain ⟨rfl, es1, cx1, sx, HL1, HPT5⟩ := hcut
        obtain ⟨w5, hw5⟩ : ∃ w5, w5 = wc := ⟨_, rfl⟩
        subst hw5
        clear HPT4
        refine ‹∀ (a : Act) (w : World), Code.wp _ _ _ a w → _› _ _ ?_
        as_aux_lemma =>
          have hc := (three_of HPT5.out.y).2.1
          have hm : IntKind.u8.wrap (y1.tmod 4) = y1.tmod 4 := by have := HYY.out; rw [wrap_u8', Int.tmod_eq_emod_of_nonneg (by omega)]; omega
          have hv1 : IntKind.i64.wrap y1 = y1 := by have := HYY.out; exact IntWalk.i64_in _ (by omega)
          go_upto_if 70 with fail
          obtain ⟨q1, hq1⟩ : ∃ q, decide (0 < y1.tmod 4) = q := ⟨_, rfl⟩
          rw [hq1]
          clear hc hm hq1
          go_cut [8] (fun v8 wx => v8 = .bool false ∧ ∃ (es : List Ent) (cy' : List Value) (sy : List Int), Hid (es.length ≤ 2) ∧ Hid (PT w wx z lo g gx gy ca cb cx1 cy' dw y0 y1 y2 A B (toT { A with ss := sx }) (toT { B with ss := sy }) es))
          case first => as_aux_lemma =>
            cases q1
            · go_wp2_with fail
              go_meet
              exact ⟨rfl, es1, cy, B.ss, Nat.le_succ_of_le HL1.out, HPT5.out⟩
            · go_upto_region 10 with fail
              obtain ⟨prX, aX, nX, cX, hcx, hpx, gX, hsx⟩ := HPT5.out.ty.sig
              have HCX : Hid (cy = prX ++ [.slice aX nX cX]) := hcx
              have HPX := Lib.hid hpx; have HSX := Lib.hid hsx
              clear hcx hpx gX hsx
              refine wp_region_L [(16, fun w' => Bk w' gy 35 cy ∧ Bk w' (z + 3) 48 [.int .u8 y0, .int .u8 y1, .int .u8 y2])] (by kernel_rfl) ⟨fun _ => ⟨Bk.drew HPT5.out.yy, Bk.drew HPT5.out.y⟩, trivial⟩ (fun hHeld => ?_)
              have hbd : Below w5.heap.size w5 w5.drew := below_draws w5 w5.heap.size 1
              obtain ⟨wa, hwa⟩ : ∃ wa, w5.drew = wa := ⟨_, rfl⟩
              rw [hwa] at hbd hHeld ⊢
              have HPTa := Lib.hid (HPT5.out.later hbd)
              clear hwa hbd
              refine wpAnyL_take0 (i := 0) (v := ?_) rfl (by kernel_rfl) (by kernel_rfl) (by kernel_rfl) (by rfl) (fun _ _ _ h => h) (Or.inl ⟨by rfl, ?_⟩) hHeld ?_
              rotate_left
              · intro w _
                go_simp
                try with_reducible rfl
              clear hHeld
              intro hHeld
              try simp only [Act.put, List.setIfInBounds_toArray, List.set_cons_zero, List.set_cons_succ, List.getElem_toArray, List.getElem_cons_zero, List.getElem_cons_succ]
              refine wpAnyL_take0 (i := 1) (v := ?_) rfl (by kernel_rfl) (by kernel_rfl) (by kernel_rfl) (by rfl) (fun _ _ _ h => h) (Or.inl ⟨by rfl, ?_⟩) hHeld ?_
              rotate_left
              · intro w _
                go_simp
                try with_reducible rfl
              clear hHeld
              intro hHeld
              try simp only [Act.put, List.setIfInBounds_toArray, List.set_cons_zero, List.set_cons_succ, List.getElem_toArray, List.getElem_cons_zero, List.getElem_cons_succ]
              refine wpAnyL_take (i := 6) 0 rfl rfl (by kernel_rfl) (by kernel_rfl) (by kernel_rfl) (by kernel_rfl) (by kernel_rfl) (by rfl) (fun _ _ _ h => h) (v := .agg (List.toArray (cy))) (yieldsIf_load_mid (by rfl) _ _ rfl _ _ rfl (cy) _ (fun w hSw => (Bk.range (pre := []) (post := []) (by simpa using hSw.1) rfl)) Try.underlying35 rfl (HPTa.out.ty.info)) hHeld ?_
              clear hHeld
              intro hHeld
              try simp only [Act.put, List.setIfInBounds_toArray, List.set_cons_zero, List.set_cons_succ, List.getElem_toArray, List.getElem_cons_zero, List.getElem_cons_succ]
              refine wpAnyL_take (i := 2) 0 rfl rfl (by kernel_rfl) (by kernel_rfl) (by kernel_rfl) (by kernel_rfl) (by kernel_rfl) (by rfl) (fun _ _ _ h => h) (v := ?_) (Or.inl ⟨by rfl, ?_⟩) hHeld ?_
              rotate_left
              · intro w hSw
                have hcell := (three_of hSw.2).2.1
                clear hSw
                go_simp
                try with_reducible rfl
              clear hHeld
              intro hHeld
              try simp only [Act.put, List.setIfInBounds_toArray, List.set_cons_zero, List.set_cons_succ, List.getElem_toArray, List.getElem_cons_zero, List.getElem_cons_succ]
              refine wpAnyL_take0 (i := 3) (v := ?_) rfl (by kernel_rfl) (by kernel_rfl) (by kernel_rfl) (by rfl) (fun _ _ _ h => h) (Or.inl ⟨by rfl, ?_⟩) hHeld ?_
              rotate_left
              · intro w _
                go_simp
                try with_reducible rfl
              clear hHeld
              intro hHeld
              try simp only [Act.put, List.setIfInBounds_toArray, List.set_cons_zero, List.set_cons_succ, List.getElem_toArray, List.getElem_cons_zero, List.getElem_cons_succ]
              refine wpAnyL_ready (rs := [4]) (by kernel_rfl) (by simp) ?_
              refine AllReadyL.cons rfl (fun K hK => ?_) AllReadyL.nil
              go_simp
              (go_at_call 27; refine (key_any wa y1).mono ?_; rintro e wb ⟨rfl, hbn⟩; have HPTb := Lib.hid (HPTa.out.later hbn); clear hbn)
              refine hK.out _ _ (⟨fun _ => ⟨HPTb.out.yy, HPTb.out.y⟩, trivial⟩) (fun hHeld => ?_)
              clear hK K
              try simp only [Act.put, List.setIfInBounds_toArray, List.set_cons_zero, List.set_cons_succ, List.getElem_toArray, List.getElem_cons_zero, List.getElem_cons_succ]
              refine wpAnyL_ready (rs := [5]) (by kernel_rfl) (by simp) ?_
              refine AllReadyL.cons rfl (fun K hK => ?_) AllReadyL.nil
              go_simp
              (go_at_call 26; refine (signer_any wb g (keyD y1) (keyD_ok _)).mono ?_; rintro e wd ⟨rfl, hbn⟩; have HPTd := Lib.hid (HPTb.out.later hbn); clear hbn)
              refine hK.out _ _ (⟨fun _ => ⟨HPTd.out.yy, HPTd.out.y⟩, trivial⟩) (fun hHeld => ?_)
              clear hK K
              try simp only [Act.put, List.setIfInBounds_toArray, List.set_cons_zero, List.set_cons_succ, List.getElem_toArray, List.getElem_cons_zero, List.getElem_cons_succ]
              refine wpAnyL_take0 (i := 8) (v := ?_) rfl (by kernel_rfl) (by kernel_rfl) (by kernel_rfl) (by rfl) (fun _ _ _ h => h) (Or.inl ⟨by rfl, ?_⟩) hHeld ?_
              rotate_left
              · intro w _
                go_simp
                try with_reducible rfl
              clear hHeld
              intro hHeld
              try simp only [Act.put, List.setIfInBounds_toArray, List.set_cons_zero, List.set_cons_succ, List.getElem_toArray, List.getElem_cons_zero, List.getElem_cons_succ]
              refine wpAnyL_take0 (i := 9) (v := ?_) rfl (by kernel_rfl) (by kernel_rfl) (by kernel_rfl) (by rfl) (fun _ _ _ h => h) (Or.inl ⟨by rfl, ?_⟩) hHeld ?_
              rotate_left
              · intro w _
                have hcell := nil_wr (wrC g (keyD y1)).toArray
                go_simp
                try with_reducible rfl
              clear hHeld
              intro hHeld
              try simp only [Act.put, List.setIfInBounds_toArray, List.set_cons_zero, List.set_cons_succ, List.getElem_toArray, List.getElem_cons_zero, List.getElem_cons_succ]
              refine wpAnyL_take0 (i := 10) (v := ?_) rfl (by kernel_rfl) (by kernel_rfl) (by kernel_rfl) (by rfl) (fun _ _ _ h => h) (Or.inl ⟨by rfl, ?_⟩) hHeld ?_
              rotate_left
              · intro w _
                go_simp
                try with_reducible rfl
              clear hHeld
              intro hHeld
              try simp only [Act.put, List.setIfInBounds_toArray, List.set_cons_zero, List.set_cons_succ, List.getElem_toArray, List.getElem_cons_zero, List.getElem_cons_succ]
              refine wpAnyL_ready (rs := [7]) (by kernel_rfl) (by simp) ?_
              refine AllReadyL.cons rfl (fun K hK => ?_) AllReadyL.nil
              go_simp
              (go_at_call 28; refine (thDigest (HPTd.out.ty.thg HPTd.out.hb)).mono ?_; rintro e we ⟨rfl, hbn⟩; have HPTe := Lib.hid (HPTd.out.later hbn); clear hbn)
              refine hK.out _ _ (⟨fun _ => ⟨HPTe.out.yy, HPTe.out.y⟩, trivial⟩) (fun hHeld => ?_)
              clear hK K
              try simp only [Act.put, List.setIfInBounds_toArray, List.set_cons_zero, List.set_cons_succ, List.getElem_toArray, List.getElem_cons_zero, List.getElem_cons_succ]
              have hmt := meth_wr (wrC g (keyD y1)).toArray
              refine wpAnyL_ready (rs := [11]) (by kernel_rfl) (by simp) ?_
              refine AllReadyL.cons rfl (fun K hK => ?_) AllReadyL.nil
              go_simp
              (refine (wsign_any we lo g es1 HPTe.out.bk (keyD y1) (dgT (toT B)) (keyD_ok _) (dgT_ok _) (by have := HL1.out; omega) HPTe.out.lh).mono ?_; rintro e wf ⟨⟨A7, c7, rfl, hown⟩, hbk7, hb7, hk7⟩; have HPTf := Lib.hid (HPTe.out.sign hk7 hb7 hbk7); have HOW := Lib.hid (own_base hown (Nat.zero_le _)); clear hown hbk7 hb7 hk7 hmt)
              refine hK.out _ _ (⟨fun _ => ⟨HPTf.out.yy, HPTf.out.y⟩, trivial⟩) (fun hHeld => ?_)
              clear hK K
              try simp only [Act.put, List.setIfInBounds_toArray, List.set_cons_zero, List.set_cons_succ, List.getElem_toArray, List.getElem_cons_zero, List.getElem_cons_succ]
              refine wpAnyL_take0 (i := 12) (v := ?_) rfl (by kernel_rfl) (by kernel_rfl) (by kernel_rfl) (by rfl) (fun _ _ _ h => h) (Or.inl ⟨by rfl, ?_⟩) hHeld ?_
              rotate_left
              · intro w _
                go_simp
                try with_reducible rfl
              clear hHeld
              intro hHeld
              try simp only [Act.put, List.setIfInBounds_toArray, List.set_cons_zero, List.set_cons_succ, List.getElem_toArray, List.getElem_cons_zero, List.getElem_cons_succ]
              refine wpAnyL_take0 (i := 13) (v := ?_) rfl (by kernel_rfl) (by kernel_rfl) (by kernel_rfl) (by rfl) (fun _ _ _ h => h) (Or.inl ⟨by rfl, ?_⟩) hHeld ?_
              rotate_left
              · intro w _
                go_simp
                try with_reducible rfl
              clear hHeld
              intro hHeld
              try simp only [Act.put, List.setIfInBounds_toArray, List.set_cons_zero, List.set_cons_succ, List.getElem_toArray, List.getElem_cons_zero, List.getElem_cons_succ]
              refine wpAnyL_take0 (i := 14) (v := ?_) rfl (by kernel_rfl) (by kernel_rfl) (by kernel_rfl) (by rfl) (fun _ _ _ h => h) (Or.inl ⟨by rfl, ?_⟩) hHeld ?_
              rotate_left
              · intro w _
                go_simp
                try with_reducible rfl
              clear hHeld
              intro hHeld
              try simp only [Act.put, List.setIfInBounds_toArray, List.set_cons_zero, List.set_cons_succ, List.getElem_toArray, List.getElem_cons_zero, List.getElem_cons_succ]
              refine wpAnyL_take0 (i := 15) (v := ?_) rfl (by kernel_rfl) (by kernel_rfl) (by kernel_rfl) (by rfl) (fun _ _ _ h => h) (Or.inl ⟨by rfl, ?_⟩) hHeld ?_
              rotate_left
              · intro w _
                go_simp
                try with_reducible rfl
              clear hHeld
              intro hHeld
              try simp only [Act.put, List.setIfInBounds_toArray, List.set_cons_zero, List.set_cons_succ, List.getElem_toArray, List.getElem_cons_zero, List.getElem_cons_succ]
              refine wpAnyL_ready (rs := [16]) (by kernel_rfl) (by simp) ?_
              refine AllReadyL.cons rfl (fun K hK => ?_) AllReadyL.nil
              rw [if_pos (by rfl)]
              refine wp_store_part _ _ _ rfl gy 29 _ ([.slice A7 2 c7]) rfl rfl rfl _ (prX) ([.slice aX nX cX]) ([]) (by have := HPTf.out.yy; rw [HCX.out] at this; simpa using this) HPX.out rfl (by kernel_rfl) (by intro x hx; simp at hx; subst hx; rfl) ?_
              intro wh hp
              refine hK.out _ _ ⟨fun h => dead h (by kernel_rfl), trivial⟩ (fun hHeld => ?_)
              clear hK K
              try simp only [Act.put, List.setIfInBounds_toArray, List.set_cons_zero, List.set_cons_succ, List.getElem_toArray, List.getElem_cons_zero, List.getElem_cons_succ]
              refine wpAnyL_done (by kernel_rfl) ?_ _
              have HPTh := Lib.hid (HPTf.out.putY (by simpa using hp) (HSX.out wf A7 2 c7 _ HPTf.out.ty (.inr (by simpa using HOW.out)) (sigB_ok (Nat.lt_of_le_of_lt List.idxOf_le_length (by have := HL1.out; omega)))))
              clear hp hHeld
              go_wp2_with fail
              go_meet
              exact ⟨rfl, bookS es1 (keyD y1, dgT (toT B)), prX ++ [.slice A7 2 c7], _, by show _ ≤ _; have := HL1.out; unfold bookS; split <;> simp <;> omega, (toT_sig B _) ▸ HPTh.out⟩
          obtain ⟨rfl, es2, cy1, sy, HL2, HPT6⟩ := hcut
          obtain ⟨w6, hw6⟩ : ∃ w6, w6 = wc := ⟨_, rfl⟩
          subst hw6
          clear HPT5
          refine ‹∀ (a : Act) (w : World), Code.wp _ _ _ a w → _› _ _ ?_
          as_aux_lemma =>
            have hc := (three_of HPT6.out.y).2.2
            have hv2 : IntKind.i64.wrap y2 = y2 := by have := HYY.out; exact IntWalk.i64_in _ (by omega)
            go_wp2_with fail
            refine (key_any w6 y2).mono ?_
            rintro e w7 ⟨rfl, hbn⟩
            have HPT7 := Lib.hid (HPT6.out.later hbn)
            clear hbn hc hv2
            have HKO := Lib.hid (keyD_ok y2)
            go_wp2_with (with_reducible refine stop_store 29 _ _ rfl ?_)
            refine StopD.go ?_
            obtain ⟨g8, hg8⟩ : ∃ g, w7.heap.size = g := ⟨_, rfl⟩
            have hbn : Below w7.heap.size w7 (w7.alloc (.cells #[.int .u8 0, .int .u8 0, .int .u8 0, .int .u8 0, .int .u8 0, .int .u8 0, .int .u8 0, .int .u8 0] 29)) := below_new w7 _
            have kt : Bk (w7.alloc (.cells #[.int .u8 0, .int .u8 0, .int .u8 0, .int .u8 0, .int .u8 0, .int .u8 0, .int .u8 0, .int .u8 0] 29)) g8 29 ([] ++ (dl zeroD ++ [])) := by rw [← hg8]; exact Bk.new' w7 _ #[.int .u8 0, .int .u8 0, .int .u8 0, .int .u8 0, .int .u8 0, .int .u8 0, .int .u8 0, .int .u8 0] rfl
            rw [hg8]
            refine wpList_store_part rfl 29 _ _ rfl g8 0 (.agg (dl (keyD y2)).toArray) (dl (keyD y2)) rfl rfl rfl 29 [] (dl zeroD) [] kt rfl (by rw [dl_len, dl_len, HKO.out.len]; rfl) (hdg_size _ HKO.out) (dl_one' _) ?_
            intro w8 hp
            have hbn : Below w7.heap.size w7 w8 := hbn.grown hp.only hbn.size (fun q hq => by injection hq with hq; omega)
            have HK8 : Hid (Bk w8 g8 29 (dl (keyD y2))) := by show Bk _ _ _ _; have := hp.bk; simpa using this
            clear hp kt hg8
            have HPT8 := Lib.hid (HPT7.out.later hbn)
            clear hbn
            obtain ⟨prX, sA, sN, sC, hcx, hpx, gX, _⟩ := HPT8.out.tx.sig
            obtain ⟨prY, tA, tN, tC, hcy, hpy, gY, _⟩ := HPT8.out.ty.sig
            have HPU8 : Hid (PU w w8 z lo g gx gy g8 ca cb cx1 cy1 dw y0 y1 y2 A B (toT { A with ss := sx }) (toT { B with ss := sy }) es2 (keyD y2) sA tA sN sC tN tC) := ⟨HPT8.out, HK8.out, gX, gY, fun w' h' => HPT8.out.tx.cell hcx hpx h', fun w' h' => HPT8.out.ty.cell hcy hpy h'⟩
            clear hcx hpx gX hcy hpy gY HPT6 HPT7 HPT8 HK8
            go_upto_region 12 with fail
            try simp only [Act.put, List.setIfInBounds_toArray, List.set_cons_zero, List.set_cons_succ, List.getElem_toArray, List.getElem_cons_zero, List.getElem_cons_succ]
            go_cut [13] (fun v8 wx => Hid (∃ (ca' cb' : List Value), PU w wx z lo g gx gy g8 ca' cb' cx1 cy1 dw y0 y1 y2 { A with ss := sx } { B with ss := sy } (toT { A with ss := sx }) (toT { B with ss := sy }) es2 (keyD y2) sA tA sN sC tN tC))
            case first => as_aux_lemma =>
              refine wp_region_held_drew (S := fun w' => Bk w' gx 35 cx1 ∧ Bk w' gy 35 cy1) (by kernel_rfl) ⟨Bk.drew HPU8.out.pt.x, Bk.drew HPU8.out.pt.yy⟩ (fun hHeld => ?_)
              have hbd : Below w8.heap.size w8 w8.drew := below_draws w8 w8.heap.size 1
              obtain ⟨wa, hwa⟩ : ∃ wa, w8.drew = wa := ⟨_, rfl⟩
              rw [hwa] at hbd hHeld ⊢
              have HPUa := Lib.hid (HPU8.out.later hbd)
              clear hwa hbd
              refine wpAnyH_take (i := 0) (v := ?_) rfl (by kernel_rfl) (by kernel_rfl) (by kernel_rfl) (fun _ _ _ h => h) (Or.inl ⟨by rfl, ?_⟩) (by assumption) ?_
              rotate_left
              · intro w hSw
                (try dsimp only at hSw)
                go_simp
                try with_reducible rfl
              try simp only [Act.put, List.setIfInBounds_toArray, List.set_cons_zero, List.set_cons_succ, List.getElem_toArray, List.getElem_cons_zero, List.getElem_cons_succ]
              refine wpAnyH_take (i := 2) (v := ?_) rfl (by kernel_rfl) (by kernel_rfl) (by kernel_rfl) (fun _ _ _ h => h) (Or.inl ⟨by rfl, ?_⟩) (by assumption) ?_
              rotate_left
              · intro w hSw
                (try dsimp only at hSw)
                go_simp
                try with_reducible rfl
              try simp only [Act.put, List.setIfInBounds_toArray, List.set_cons_zero, List.set_cons_succ, List.getElem_toArray, List.getElem_cons_zero, List.getElem_cons_succ]
              refine wpAnyH_take (i := 1) (v := ?_) rfl (by kernel_rfl) (by kernel_rfl) (by kernel_rfl) (fun _ _ _ h => h) (Or.inl ⟨by rfl, ?_⟩) (by assumption) ?_
              rotate_left
              · intro w hSw
                have hcell := HPU8.out.cx w hSw.1
                clear hSw
                go_simp
                try with_reducible rfl
              try simp only [Act.put, List.setIfInBounds_toArray, List.set_cons_zero, List.set_cons_succ, List.getElem_toArray, List.getElem_cons_zero, List.getElem_cons_succ]
              refine wpAnyH_take (i := 3) (v := ?_) rfl (by kernel_rfl) (by kernel_rfl) (by kernel_rfl) (fun _ _ _ h => h) (Or.inl ⟨by rfl, ?_⟩) (by assumption) ?_
              rotate_left
              · intro w hSw
                have hcell := HPU8.out.cy w hSw.2
                clear hSw
                go_simp
                try with_reducible rfl
              try simp only [Act.put, List.setIfInBounds_toArray, List.set_cons_zero, List.set_cons_succ, List.getElem_toArray, List.getElem_cons_zero, List.getElem_cons_succ]
              refine wpAnyH_take (i := 4) (v := ?_) rfl (by kernel_rfl) (by kernel_rfl) (by kernel_rfl) (fun _ _ _ h => h) (Or.inl ⟨by rfl, ?_⟩) (by assumption) ?_
              rotate_left
              · intro w hSw
                (try dsimp only at hSw)
                go_simp
                try with_reducible rfl
              try simp only [Act.put, List.setIfInBounds_toArray, List.set_cons_zero, List.set_cons_succ, List.getElem_toArray, List.getElem_cons_zero, List.getElem_cons_succ]
              refine wpAnyH_ready (rs := [5]) (by kernel_rfl) (by simp) ?_
              refine AllReadyH.cons rfl (fun K hK => ?_) AllReadyH.nil
              rw [if_pos (by rfl)]
              refine wp_store_part _ _ _ rfl z 19 _ ([.slice sA sN sC]) rfl rfl rfl _ ((prA ++ [.slice aA nA cA])) ([.slice bA mA dA]) ([.bool A.o]) (by have := HPUa.out.pt.p; rw [HCA.out] at this; exact this) (by simp [HPA.out]) rfl (by kernel_rfl) (by intro x hx; simp at hx; subst hx; rfl) ?_
              intro wb hp
              refine hK.out _ _ ⟨HPUa.out.pt.x.grown hp.only (by intro e; injection e with e; exact HPUa.out.pt.x.ne_ HPUa.out.pt.p (by decide) e), HPUa.out.pt.yy.grown hp.only (by intro e; injection e with e; exact HPUa.out.pt.yy.ne_ HPUa.out.pt.p (by decide) e)⟩ (fun hHeld => ?_)
              clear hK K
              try simp only [Act.put, List.setIfInBounds_toArray, List.set_cons_zero, List.set_cons_succ, List.getElem_toArray, List.getElem_cons_zero, List.getElem_cons_succ]
              have HPUb := Lib.hid (HPUa.out.putP (Nat.le_of_eq hz) hp (HSA.out wa sA sN sC sx HPUa.out.pt.ra (by have := HPUa.out.sx; rwa [toT_ss] at this) (by have := HPUa.out.pt.tx.so; rwa [toT_ss] at this)))
              clear hp
              refine wpAnyH_take (i := 6) (v := ?_) rfl (by kernel_rfl) (by kernel_rfl) (by kernel_rfl) (fun _ _ _ h => h) (Or.inl ⟨by rfl, ?_⟩) (by assumption) ?_
              rotate_left
              · intro w hSw
                (try dsimp only at hSw)
                go_simp
                try with_reducible rfl
              try simp only [Act.put, List.setIfInBounds_toArray, List.set_cons_zero, List.set_cons_succ, List.getElem_toArray, List.getElem_cons_zero, List.getElem_cons_succ]
              refine wpAnyH_ready (rs := [7]) (by kernel_rfl) (by simp) ?_
              refine AllReadyH.cons rfl (fun K hK => ?_) AllReadyH.nil
              rw [if_pos (by rfl)]
              refine wp_store_part _ _ _ rfl (z + 1) 19 _ ([.slice tA tN tC]) rfl rfl rfl _ ((prB ++ [.slice aB nB cB])) ([.slice bB mB dB]) ([.bool B.o]) (by have := HPUb.out.pt.q; rw [HCB.out] at this; exact this) (by simp [HPB.out]) rfl (by kernel_rfl) (by intro x hx; simp at hx; subst hx; rfl) ?_
              intro wd hp
              refine hK.out _ _ ⟨HPUb.out.pt.x.grown hp.only (by intro e; injection e with e; exact HPUb.out.pt.x.ne_ HPUb.out.pt.q (by decide) e), HPUb.out.pt.yy.grown hp.only (by intro e; injection e with e; exact HPUb.out.pt.yy.ne_ HPUb.out.pt.q (by decide) e)⟩ (fun hHeld => ?_)
              clear hK K
              try simp only [Act.put, List.setIfInBounds_toArray, List.set_cons_zero, List.set_cons_succ, List.getElem_toArray, List.getElem_cons_zero, List.getElem_cons_succ]
              have HPUd := Lib.hid (HPUb.out.putQ (Nat.le_of_eq hz) hp (HSB.out wb tA tN tC sy HPUb.out.pt.rb (by have := HPUb.out.sy; rwa [toT_ss] at this) (by have := HPUb.out.pt.ty.so; rwa [toT_ss] at this)))
              clear hp hHeld
              refine wpAnyH_done (by kernel_rfl) ?_ _
              go_wp2_with fail
              go_meet
              exact ⟨_, _, HPUd.out⟩
            obtain ⟨ca2, cb2, hpu⟩ := hcut.out
            obtain ⟨w9, hw9⟩ : ∃ w9, w9 = wc := ⟨_, rfl⟩
            subst hw9
            obtain ⟨R, hR⟩ : ∃ R, { A with ss := sx } = R := ⟨_, rfl⟩
            obtain ⟨S, hS⟩ : ∃ S, { B with ss := sy } = S := ⟨_, rfl⟩
            have HPU9 := Lib.hid hpu
            rw [hR, hS] at HPU9
            clear HPU8 hcut hpu hR hS HRC HRD HCA HCB HPA HPB HSA HSB HLA HLB
            refine ‹∀ (a : Act) (w : World), Code.wp _ _ _ a w → _› _ _ ?_
            as_aux_lemma =>
              go_upto_region 13 with fail
              obtain ⟨v1, hv1⟩ : ∃ v, verB es2 (keyD y2, dgT (toT R)) (toT R).ss = v := ⟨_, rfl⟩
              obtain ⟨v2, hv2⟩ : ∃ v, verB es2 (keyD y2, dgT (toT S)) (toT S).ss = v := ⟨_, rfl⟩
              have HV1 := Lib.hid hv1; have HV2 := Lib.hid hv2
              clear hv1 hv2
              go_cut [13] (fun v13 wx => v13 = .bool (v1 && v2) ∧ Hid (PU w wx z lo g gx gy g8 ca2 cb2 cx1 cy1 dw y0 y1 y2 R S (toT R) (toT S) es2 (keyD y2) sA tA sN sC tN tC))
              case first => as_aux_lemma =>
                refine wp_region_held_drew (S := fun w' => Bk w' gx 35 cx1 ∧ Bk w' gy 35 cy1 ∧ Bk w' g8 29 (dl (keyD y2))) (by kernel_rfl) ⟨Bk.drew HPU9.out.pt.x, Bk.drew HPU9.out.pt.yy, Bk.drew HPU9.out.ky⟩ (fun hHeld => ?_)
                have hbd : Below w9.heap.size w9 w9.drew := below_draws w9 w9.heap.size 1
                obtain ⟨wa, hwa⟩ : ∃ wa, w9.drew = wa := ⟨_, rfl⟩
                rw [hwa] at hbd hHeld ⊢
                have HPUa := Lib.hid (HPU9.out.later hbd)
                clear hwa hbd
                refine wpAnyH_take (i := 0) (v := ?_) rfl (by kernel_rfl) (by kernel_rfl) (by kernel_rfl) (fun _ _ _ h => h) (Or.inl ⟨by rfl, ?_⟩) (by assumption) ?_
                rotate_left
                · intro w hSw
                  (try dsimp only at hSw)
                  go_simp
                  try with_reducible rfl
                try simp only [Act.put, List.setIfInBounds_toArray, List.set_cons_zero, List.set_cons_succ, List.getElem_toArray, List.getElem_cons_zero, List.getElem_cons_succ]
                refine wpAnyH_take (i := 1) (v := .agg (List.toArray (dl (keyD y2)))) rfl (by kernel_rfl) (by kernel_rfl) (by kernel_rfl) (fun _ _ _ h => h) (yieldsIf_load_mid (by rfl) _ _ rfl _ _ rfl (dl (keyD y2)) _ (fun w hSw => (Bk.range (pre := []) (post := []) (by simpa using hSw.2.2) rfl)) Try.underlying29 rfl (dg_sz (keyD_ok y2))) (by assumption) ?_
                try simp only [Act.put, List.setIfInBounds_toArray, List.set_cons_zero, List.set_cons_succ, List.getElem_toArray, List.getElem_cons_zero, List.getElem_cons_succ]
                refine wpAnyH_take (i := 2) (v := .agg (List.toArray (cx1))) rfl (by kernel_rfl) (by kernel_rfl) (by kernel_rfl) (fun _ _ _ h => h) (yieldsIf_load_mid (by rfl) _ _ rfl _ _ rfl (cx1) _ (fun w hSw => (Bk.range (pre := []) (post := []) (by simpa using hSw.1) rfl)) Try.underlying35 rfl (HPUa.out.pt.tx.info)) (by assumption) ?_
                try simp only [Act.put, List.setIfInBounds_toArray, List.set_cons_zero, List.set_cons_succ, List.getElem_toArray, List.getElem_cons_zero, List.getElem_cons_succ]
                refine wpAnyH_take (i := 4) (v := ?_) rfl (by kernel_rfl) (by kernel_rfl) (by kernel_rfl) (fun _ _ _ h => h) (Or.inl ⟨by rfl, ?_⟩) (by assumption) ?_
                rotate_left
                · intro w hSw
                  (try dsimp only at hSw)
                  go_simp
                  try with_reducible rfl
                try simp only [Act.put, List.setIfInBounds_toArray, List.set_cons_zero, List.set_cons_succ, List.getElem_toArray, List.getElem_cons_zero, List.getElem_cons_succ]
                refine wpAnyH_take (i := 5) (v := ?_) rfl (by kernel_rfl) (by kernel_rfl) (by kernel_rfl) (fun _ _ _ h => h) (Or.inl ⟨by rfl, ?_⟩) (by assumption) ?_
                rotate_left
                · intro w hSw
                  have hcell := HPUa.out.cx w hSw.1
                  clear hSw
                  go_simp
                  try with_reducible rfl
                try simp only [Act.put, List.setIfInBounds_toArray, List.set_cons_zero, List.set_cons_succ, List.getElem_toArray, List.getElem_cons_zero, List.getElem_cons_succ]
                refine wpAnyH_ready (rs := [3]) (by kernel_rfl) (by simp) ?_
                refine AllReadyH.cons rfl (fun K hK => ?_) AllReadyH.nil
                go_simp
                (go_at_call 28; refine (thDigest (HPUa.out.pt.tx.thg HPUa.out.pt.hb)).mono ?_; rintro e wb ⟨rfl, hbn⟩; have HPUb := Lib.hid (HPUa.out.later hbn); clear hbn)
                refine hK.out _ _ (⟨HPUb.out.pt.x, HPUb.out.pt.yy, HPUb.out.ky⟩) (fun hHeld => ?_)
                clear hK K
                try simp only [Act.put, List.setIfInBounds_toArray, List.set_cons_zero, List.set_cons_succ, List.getElem_toArray, List.getElem_cons_zero, List.getElem_cons_succ]
                refine wpAnyH_ready (rs := [6]) (by kernel_rfl) (by simp) ?_
                refine AllReadyH.cons rfl (fun K hK => ?_) AllReadyH.nil
                go_simp
                (go_at_call 29; refine (verify_any wb lo g es2 HPUb.out.pt.bk (keyD y2) (dgT (toT R)) (keyD_ok _) (dgT_ok _) (by have := HL2.out; omega) sA sN sC (toT R).ss (HPUb.out.sx.sl HPUb.out.pt.hb) HPUb.out.pt.tx.so).mono ?_; rintro e wd ⟨he, hbn⟩; rw [HV1.out] at he; subst he; have HPUd := Lib.hid (HPUb.out.later hbn); clear hbn)
                refine hK.out _ _ (⟨HPUd.out.pt.x, HPUd.out.pt.yy, HPUd.out.ky⟩) (fun hHeld => ?_)
                clear hK K
                try simp only [Act.put, List.setIfInBounds_toArray, List.set_cons_zero, List.set_cons_succ, List.getElem_toArray, List.getElem_cons_zero, List.getElem_cons_succ]
                cases v1
                ·
                  refine wpAnyH_take (i := 7) (v := ?_) rfl (by kernel_rfl) (by kernel_rfl) (by kernel_rfl) (fun _ _ _ h => h) (Or.inl ⟨by rfl, ?_⟩) (by assumption) ?_
                  rotate_left
                  · intro w hSw
                    (try dsimp only at hSw)
                    go_simp
                    try with_reducible rfl
                  try simp only [Act.put, List.setIfInBounds_toArray, List.set_cons_zero, List.set_cons_succ, List.getElem_toArray, List.getElem_cons_zero, List.getElem_cons_succ]
                  refine wpAnyH_take (i := 8) (v := undef) rfl (by kernel_rfl) (by kernel_rfl) (by kernel_rfl) (fun _ _ _ h => h) (Or.inr ⟨by rfl, rfl⟩) (by assumption) ?_
                  try simp only [Act.put, List.setIfInBounds_toArray, List.set_cons_zero, List.set_cons_succ, List.getElem_toArray, List.getElem_cons_zero, List.getElem_cons_succ]
                  refine wpAnyH_take (i := 9) (v := undef) rfl (by kernel_rfl) (by kernel_rfl) (by kernel_rfl) (fun _ _ _ h => h) (Or.inr ⟨by rfl, rfl⟩) (by assumption) ?_
                  try simp only [Act.put, List.setIfInBounds_toArray, List.set_cons_zero, List.set_cons_succ, List.getElem_toArray, List.getElem_cons_zero, List.getElem_cons_succ]
                  refine wpAnyH_take (i := 10) (v := undef) rfl (by kernel_rfl) (by kernel_rfl) (by kernel_rfl) (fun _ _ _ h => h) (Or.inr ⟨by rfl, rfl⟩) (by assumption) ?_
                  try simp only [Act.put, List.setIfInBounds_toArray, List.set_cons_zero, List.set_cons_succ, List.getElem_toArray, List.getElem_cons_zero, List.getElem_cons_succ]
                  refine wpAnyH_take (i := 12) (v := undef) rfl (by kernel_rfl) (by kernel_rfl) (by kernel_rfl) (fun _ _ _ h => h) (Or.inr ⟨by rfl, rfl⟩) (by assumption) ?_
                  try simp only [Act.put, List.setIfInBounds_toArray, List.set_cons_zero, List.set_cons_succ, List.getElem_toArray, List.getElem_cons_zero, List.getElem_cons_succ]
                  refine wpAnyH_take (i := 13) (v := undef) rfl (by kernel_rfl) (by kernel_rfl) (by kernel_rfl) (fun _ _ _ h => h) (Or.inr ⟨by rfl, rfl⟩) (by assumption) ?_
                  try simp only [Act.put, List.setIfInBounds_toArray, List.set_cons_zero, List.set_cons_succ, List.getElem_toArray, List.getElem_cons_zero, List.getElem_cons_succ]
                  refine wpAnyH_take (i := 11) (v := undef) rfl (by kernel_rfl) (by kernel_rfl) (by kernel_rfl) (fun _ _ _ h => h) (Or.inr ⟨by rfl, rfl⟩) (by assumption) ?_
                  try simp only [Act.put, List.setIfInBounds_toArray, List.set_cons_zero, List.set_cons_succ, List.getElem_toArray, List.getElem_cons_zero, List.getElem_cons_succ]
                  refine wpAnyH_take (i := 14) (v := undef) rfl (by kernel_rfl) (by kernel_rfl) (by kernel_rfl) (fun _ _ _ h => h) (Or.inr ⟨by rfl, rfl⟩) (by assumption) ?_
                  try simp only [Act.put, List.setIfInBounds_toArray, List.set_cons_zero, List.set_cons_succ, List.getElem_toArray, List.getElem_cons_zero, List.getElem_cons_succ]
                  refine wpAnyH_take (i := 15) (v := ?_) rfl (by kernel_rfl) (by kernel_rfl) (by kernel_rfl) (fun _ _ _ h => h) (Or.inl ⟨by rfl, ?_⟩) (by assumption) ?_
                  rotate_left
                  · intro w hSw
                    (try dsimp only at hSw)
                    go_simp
                    try with_reducible rfl
                  try simp only [Act.put, List.setIfInBounds_toArray, List.set_cons_zero, List.set_cons_succ, List.getElem_toArray, List.getElem_cons_zero, List.getElem_cons_succ]
                  refine wpAnyH_take (i := 16) (v := ?_) rfl (by kernel_rfl) (by kernel_rfl) (by kernel_rfl) (fun _ _ _ h => h) (Or.inl ⟨by rfl, ?_⟩) (by assumption) ?_
                  rotate_left
                  · intro w hSw
                    (try dsimp only at hSw)
                    go_simp
                    try with_reducible rfl
                  try simp only [Act.put, List.setIfInBounds_toArray, List.set_cons_zero, List.set_cons_succ, List.getElem_toArray, List.getElem_cons_zero, List.getElem_cons_succ]
                  refine wpAnyH_done (by kernel_rfl) ?_ _
                  go_wp2_with fail
                  go_meet
                  exact ⟨rfl, HPUd.out⟩
                ·
                  refine wpAnyH_take (i := 7) (v := ?_) rfl (by kernel_rfl) (by kernel_rfl) (by kernel_rfl) (fun _ _ _ h => h) (Or.inl ⟨by rfl, ?_⟩) (by assumption) ?_
                  rotate_left
                  · intro w hSw
                    (try dsimp only at hSw)
                    go_simp
                    try with_reducible rfl
                  try simp only [Act.put, List.setIfInBounds_toArray, List.set_cons_zero, List.set_cons_succ, List.getElem_toArray, List.getElem_cons_zero, List.getElem_cons_succ]
                  refine wpAnyH_take (i := 8) (v := ?_) rfl (by kernel_rfl) (by kernel_rfl) (by kernel_rfl) (fun _ _ _ h => h) (Or.inl ⟨by rfl, ?_⟩) (by assumption) ?_
                  rotate_left
                  · intro w hSw
                    (try dsimp only at hSw)
                    go_simp
                    try with_reducible rfl
                  try simp only [Act.put, List.setIfInBounds_toArray, List.set_cons_zero, List.set_cons_succ, List.getElem_toArray, List.getElem_cons_zero, List.getElem_cons_succ]
                  refine wpAnyH_take (i := 9) (v := .agg (List.toArray (dl (keyD y2)))) rfl (by kernel_rfl) (by kernel_rfl) (by kernel_rfl) (fun _ _ _ h => h) (yieldsIf_load_mid (by rfl) _ _ rfl _ _ rfl (dl (keyD y2)) _ (fun w hSw => (Bk.range (pre := []) (post := []) (by simpa using hSw.2.2) rfl)) Try.underlying29 rfl (dg_sz (keyD_ok y2))) (by assumption) ?_
                  try simp only [Act.put, List.setIfInBounds_toArray, List.set_cons_zero, List.set_cons_succ, List.getElem_toArray, List.getElem_cons_zero, List.getElem_cons_succ]
                  refine wpAnyH_take (i := 10) (v := .agg (List.toArray (cy1))) rfl (by kernel_rfl) (by kernel_rfl) (by kernel_rfl) (fun _ _ _ h => h) (yieldsIf_load_mid (by rfl) _ _ rfl _ _ rfl (cy1) _ (fun w hSw => (Bk.range (pre := []) (post := []) (by simpa using hSw.2.1) rfl)) Try.underlying35 rfl (HPUa.out.pt.ty.info)) (by assumption) ?_
                  try simp only [Act.put, List.setIfInBounds_toArray, List.set_cons_zero, List.set_cons_succ, List.getElem_toArray, List.getElem_cons_zero, List.getElem_cons_succ]
                  refine wpAnyH_take (i := 12) (v := ?_) rfl (by kernel_rfl) (by kernel_rfl) (by kernel_rfl) (fun _ _ _ h => h) (Or.inl ⟨by rfl, ?_⟩) (by assumption) ?_
                  rotate_left
                  · intro w hSw
                    (try dsimp only at hSw)
                    go_simp
                    try with_reducible rfl
                  try simp only [Act.put, List.setIfInBounds_toArray, List.set_cons_zero, List.set_cons_succ, List.getElem_toArray, List.getElem_cons_zero, List.getElem_cons_succ]
                  refine wpAnyH_take (i := 13) (v := ?_) rfl (by kernel_rfl) (by kernel_rfl) (by kernel_rfl) (fun _ _ _ h => h) (Or.inl ⟨by rfl, ?_⟩) (by assumption) ?_
                  rotate_left
                  · intro w hSw
                    have hcell := HPUa.out.cy w hSw.2.1
                    clear hSw
                    go_simp
                    try with_reducible rfl
                  try simp only [Act.put, List.setIfInBounds_toArray, List.set_cons_zero, List.set_cons_succ, List.getElem_toArray, List.getElem_cons_zero, List.getElem_cons_succ]
                  refine wpAnyH_ready (rs := [11]) (by kernel_rfl) (by simp) ?_
                  refine AllReadyH.cons rfl (fun K hK => ?_) AllReadyH.nil
                  go_simp
                  (go_at_call 28; refine (thDigest (HPUd.out.pt.ty.thg HPUd.out.pt.hb)).mono ?_; rintro e we ⟨rfl, hbn⟩; have HPUe := Lib.hid (HPUd.out.later hbn); clear hbn)
                  refine hK.out _ _ (⟨HPUe.out.pt.x, HPUe.out.pt.yy, HPUe.out.ky⟩) (fun hHeld => ?_)
                  clear hK K
                  try simp only [Act.put, List.setIfInBounds_toArray, List.set_cons_zero, List.set_cons_succ, List.getElem_toArray, List.getElem_cons_zero, List.getElem_cons_succ]
                  refine wpAnyH_ready (rs := [14]) (by kernel_rfl) (by simp) ?_
                  refine AllReadyH.cons rfl (fun K hK => ?_) AllReadyH.nil
                  go_simp
                  (go_at_call 29; refine (verify_any we lo g es2 HPUe.out.pt.bk (keyD y2) (dgT (toT S)) (keyD_ok _) (dgT_ok _) (by have := HL2.out; omega) tA tN tC (toT S).ss (HPUe.out.sy.sl HPUe.out.pt.hb) HPUe.out.pt.ty.so).mono ?_; rintro e wf ⟨he, hbn⟩; rw [HV2.out] at he; subst he; have HPUf := Lib.hid (HPUe.out.later hbn); clear hbn)
                  refine hK.out _ _ (⟨HPUf.out.pt.x, HPUf.out.pt.yy, HPUf.out.ky⟩) (fun hHeld => ?_)
                  clear hK K
                  try simp only [Act.put, List.setIfInBounds_toArray, List.set_cons_zero, List.set_cons_succ, List.getElem_toArray, List.getElem_cons_zero, List.getElem_cons_succ]
                  refine wpAnyH_take (i := 15) (v := ?_) rfl (by kernel_rfl) (by kernel_rfl) (by kernel_rfl) (fun _ _ _ h => h) (Or.inl ⟨by rfl, ?_⟩) (by assumption) ?_
                  rotate_left
                  · intro w hSw
                    (try dsimp only at hSw)
                    go_simp
                    try with_reducible rfl
                  try simp only [Act.put, List.setIfInBounds_toArray, List.set_cons_zero, List.set_cons_succ, List.getElem_toArray, List.getElem_cons_zero, List.getElem_cons_succ]
                  refine wpAnyH_take (i := 16) (v := ?_) rfl (by kernel_rfl) (by kernel_rfl) (by kernel_rfl) (fun _ _ _ h => h) (Or.inl ⟨by rfl, ?_⟩) (by assumption) ?_
                  rotate_left
                  · intro w hSw
                    (try dsimp only at hSw)
                    go_simp
                    try with_reducible rfl
                  try simp only [Act.put, List.setIfInBounds_toArray, List.set_cons_zero, List.set_cons_succ, List.getElem_toArray, List.getElem_cons_zero, List.getElem_cons_succ]
                  refine wpAnyH_done (by kernel_rfl) ?_ _
                  go_wp2_with fail
                  go_meet
                  exact ⟨rfl, HPUf.out⟩
              obtain ⟨rfl, hpu⟩ := hcut
              obtain ⟨w10, hw10⟩ : ∃ w10, w10 = wc := ⟨_, rfl⟩
              subst hw10
              have HPU10 := hpu
              clear hpu HPU9
              refine ‹∀ (a : Act) (w : World), Code.wp _ _ _ a w → _› _ _ ?_
              as_aux_lemma =>
                go_wp2_with (with_reducible refine wpList_load_bk rfl 35 _ rfl gx rfl cx1 35 HPU10.out.pt.x _ Try.underlying35 rfl HPU10.out.pt.tx.info ?_)
                refine (thPlace (HPU10.out.pt.tx.thg HPU10.out.pt.hb)).mono ?_
                rintro e w11 ⟨rfl, hbn⟩
                have HPU11 := Lib.hid (HPU10.out.later hbn)
                clear hbn HPU10
                go_wp2_with (with_reducible refine stop_store 29 _ _ rfl ?_)
                refine StopD.go ?_
                obtain ⟨P1, hP1⟩ : ∃ P, placeT (toT R).k (toT R).t (toT R).u = P := ⟨_, rfl⟩
                obtain ⟨P2, hP2⟩ : ∃ P, placeA (toT R).k (toT R).v = P := ⟨_, rfl⟩
                obtain ⟨P3, hP3⟩ : ∃ P, placeN (toT R).k (toT R).n (toT R).m = P := ⟨_, rfl⟩
                have HP1O : Hid (DgOk P1) := by show DgOk P1; rw [← hP1]; unfold placeT; (repeat' split) <;> first | exact HPU11.out.pt.tx.ht | exact HPU11.out.pt.tx.hu | exact zero_ok
                have HP2O : Hid (DgOk P2) := by show DgOk P2; rw [← hP2]; unfold placeA; (repeat' split) <;> first | exact HPU11.out.pt.tx.hv | exact zero_ok
                have HPL : Hid (rchk R = 0 → P1 = R.t ∧ P3 = R.n ∧ P2 = ratT R.k R.v) := fun h => by
                  have := toT_place (rchk_k h)
                  rw [hP1, hP2, hP3] at this
                  exact this
                rw [hP1, hP2, hP3]
                clear hP1 hP2 hP3
                obtain ⟨gp, hgp⟩ : ∃ g, w11.heap.size = g := ⟨_, rfl⟩
                obtain ⟨w12, hw12⟩ : ∃ w', (w11.alloc (.cells #[.int .u8 0, .int .u8 0, .int .u8 0, .int .u8 0, .int .u8 0, .int .u8 0, .int .u8 0, .int .u8 0] 29)).alloc (.cells #[.int .u8 0, .int .u8 0, .int .u8 0, .int .u8 0, .int .u8 0, .int .u8 0, .int .u8 0, .int .u8 0] 29) = w' := ⟨_, rfl⟩
                have hbn : Below w11.heap.size w11 w12 := hw12 ▸ (below_new w11 _).alloc (by simp) _
                have kp : Bk w12 gp 29 ([] ++ (dl zeroD ++ [])) := hw12 ▸ (Bk.at_ w11 _ _ hgp rfl).alloc _
                have kq : Bk w12 (gp + 1) 29 ([] ++ (dl zeroD ++ [])) := hw12 ▸ Bk.at_ _ _ _ (by simp [hgp]) rfl
                rw [hgp, hw12]
                refine wpList_store_part rfl 29 _ _ rfl gp 0 (.agg (dl P1).toArray) (dl P1) rfl rfl rfl 29 [] (dl zeroD) [] kp rfl (by rw [dl_len, dl_len, HP1O.out.len]; rfl) (hdg_size _ HP1O.out) (dl_one' _) ?_
                intro w13 hp
                have hbn : Below w11.heap.size w11 w13 := hbn.grown hp.only hbn.size (fun q hq => by injection hq with hq; omega)
                have kp : Bk w13 gp 29 (dl P1) := by have := hp.bk; simpa using this
                have kq : Bk w13 (gp + 1) 29 ([] ++ (dl zeroD ++ [])) := kq.grown hp.only (by intro e; injection e with e; omega)
                have HBN := Lib.hid hbn; have HKP := Lib.hid kp; have HKQ := Lib.hid kq; have HGP := Lib.hid hgp
                clear hp hbn kp kq hgp hw12
                go_wp2_with (with_reducible refine stop_store 29 _ _ rfl ?_)
                refine StopD.go ?_
                refine wpList_store_part rfl 29 _ _ rfl (gp + 1) 0 (.agg (dl P2).toArray) (dl P2) rfl rfl rfl 29 [] (dl zeroD) [] HKQ.out rfl (by rw [dl_len, dl_len, HP2O.out.len]; rfl) (hdg_size _ HP2O.out) (dl_one' _) ?_
                intro w14 hp
                have HKP14 := Lib.hid (HKP.out.grown hp.only (by intro e; injection e with e; omega))
                have HKQ14 : Hid (Bk w14 (gp + 1) 29 (dl P2)) := by show Bk _ _ _ _; have := hp.bk; simpa using this
                have HPU14 := Lib.hid (HPU11.out.later (HBN.out.grown hp.only HBN.out.size (fun q hq => by injection hq with hq; have := HGP.out; omega)))
                clear hp HBN HKP HKQ HPU11
                go_upto_region 15 with fail
                try simp only [Act.put, List.setIfInBounds_toArray, List.set_cons_zero, List.set_cons_succ, List.getElem_toArray, List.getElem_cons_zero, List.getElem_cons_succ]
                obtain ⟨c1, hc1⟩ : ∃ c, rchk R = c := ⟨_, rfl⟩
                have HC1 := Lib.hid hc1
                rw [hc1] at HPL
                clear hc1
                go_cut [139] (fun v wx => v = .bool false ∧ Hid (PU w wx z lo g gx gy g8 ca2 cb2 cx1 cy1 dw y0 y1 y2 R S (toT R) (toT S) es2 (keyD y2) sA tA sN sC tN tC))
                case first => as_aux_lemma =>
                  have HRM := Lib.hid HPU14.out.pt.ra.mem
                  refine wp_region_held_drew (S := fun w' => Bk w' z 25 ca2 ∧ Bk w' gp 29 (dl P1) ∧ Bk w' (gp + 1) 29 (dl P2)) (by kernel_rfl) ⟨Bk.drew HPU14.out.pt.p, Bk.drew HKP14.out, Bk.drew HKQ14.out⟩ (fun hHeld => ?_)
                  have hbd : Below w14.heap.size w14 w14.drew := below_draws w14 w14.heap.size 1
                  obtain ⟨wa, hwa⟩ : ∃ wa, w14.drew = wa := ⟨_, rfl⟩
                  rw [hwa] at hbd hHeld ⊢
                  have HPUa := Lib.hid (HPU14.out.later hbd); have HKPa := Lib.hid (HKP14.out.later hbd); have HKQa := Lib.hid (HKQ14.out.later hbd)
                  clear hwa hbd
                  refine wpAnyH_take (i := 0) (v := .agg (List.toArray (ca2))) rfl (by kernel_rfl) (by kernel_rfl) (by kernel_rfl) (fun _ _ _ h => h) (yieldsIf_load_mid (by rfl) _ _ rfl _ _ rfl (ca2) _ (fun w hSw => (Bk.range (pre := []) (post := []) (by simpa using hSw.1) rfl)) Try.underlying25 rfl (HPUa.out.pt.ra.info)) (by assumption) ?_
                  try simp only [Act.put, List.setIfInBounds_toArray, List.set_cons_zero, List.set_cons_succ, List.getElem_toArray, List.getElem_cons_zero, List.getElem_cons_succ]
                  refine wpAnyH_ready (rs := [1]) (by kernel_rfl) (by simp) ?_
                  refine AllReadyH.cons rfl (fun K hK => ?_) AllReadyH.nil
                  go_simp
                  (go_at_call 31; refine (rthCheck (HPUa.out.pt.ra.rth HPUa.out.pt.hb)).mono ?_; rintro e wb ⟨he, hbn⟩; rw [HC1.out] at he; subst he; have HPUb := Lib.hid (HPUa.out.later hbn); have HKPb := Lib.hid (HKPa.out.later hbn); have HKQb := Lib.hid (HKQa.out.later hbn); clear hbn)
                  refine hK.out _ _ (⟨HPUb.out.pt.p, HKPb.out, HKQb.out⟩) (fun hHeld => ?_)
                  clear hK K
                  try simp only [Act.put, List.setIfInBounds_toArray, List.set_cons_zero, List.set_cons_succ, List.getElem_toArray, List.getElem_cons_zero, List.getElem_cons_succ]
                  by_cases c0 : c1 = 0
                  ·
                    subst c0
                    obtain ⟨e1, e2, e3⟩ := HPL.out rfl
                    subst e1; subst e2; subst e3
                    have HQT := Lib.hid (fun W => eqSelf HP1O.out W); have HQA := Lib.hid (fun W => eqSelf HP2O.out W)
                    refine wpAnyH_take (i := 2) (v := ?_) rfl (by kernel_rfl) (by kernel_rfl) (by kernel_rfl) (fun _ _ _ h => h) (Or.inl ⟨by rfl, ?_⟩) (by assumption) ?_
                    rotate_left
                    · intro w hSw
                      (try dsimp only at hSw)
                      go_simp
                      try with_reducible rfl
                    try simp only [Act.put, List.setIfInBounds_toArray, List.set_cons_zero, List.set_cons_succ, List.getElem_toArray, List.getElem_cons_zero, List.getElem_cons_succ]
                    refine wpAnyH_take (i := 3) (v := ?_) rfl (by kernel_rfl) (by kernel_rfl) (by kernel_rfl) (fun _ _ _ h => h) (Or.inl ⟨by rfl, ?_⟩) (by assumption) ?_
                    rotate_left
                    · intro w hSw
                      (try dsimp only at hSw)
                      go_simp
                      try with_reducible rfl
                    try simp only [Act.put, List.setIfInBounds_toArray, List.set_cons_zero, List.set_cons_succ, List.getElem_toArray, List.getElem_cons_zero, List.getElem_cons_succ]
                    refine wpAnyH_take (i := 4) (v := .agg (List.toArray (dl R.t))) rfl (by kernel_rfl) (by kernel_rfl) (by kernel_rfl) (fun _ _ _ h => h) (yieldsIf_load_mid (by rfl) _ _ rfl _ _ rfl (dl R.t) _ (fun w hSw => (Bk.range (pre := []) (post := []) (by simpa using hSw.2.1) rfl)) Try.underlying29 rfl (dg_sz HP1O.out)) (by assumption) ?_
                    try simp only [Act.put, List.setIfInBounds_toArray, List.set_cons_zero, List.set_cons_succ, List.getElem_toArray, List.getElem_cons_zero, List.getElem_cons_succ]
                    refine wpAnyH_take (i := 5) (v := ?_) rfl (by kernel_rfl) (by kernel_rfl) (by kernel_rfl) (fun _ _ _ h => h) (Or.inl ⟨by rfl, ?_⟩) (by assumption) ?_
                    rotate_left
                    · intro w hSw
                      (try dsimp only at hSw)
                      go_simp
                      try with_reducible rfl
                    try simp only [Act.put, List.setIfInBounds_toArray, List.set_cons_zero, List.set_cons_succ, List.getElem_toArray, List.getElem_cons_zero, List.getElem_cons_succ]
                    refine wpAnyH_take (i := 6) (v := .agg (List.toArray (dl R.t))) rfl (by kernel_rfl) (by kernel_rfl) (by kernel_rfl) (fun _ _ _ h => h) (yieldsIf_load_mid (by rfl) _ _ rfl _ _ rfl (dl R.t) _ (fun w hSw => (HRM.out w z hSw.1).1) Try.underlying22 rfl (rdg_sz HP1O.out)) (by assumption) ?_
                    try simp only [Act.put, List.setIfInBounds_toArray, List.set_cons_zero, List.set_cons_succ, List.getElem_toArray, List.getElem_cons_zero, List.getElem_cons_succ]
                    refine wpAnyH_take (i := 7) (v := ?_) rfl (by kernel_rfl) (by kernel_rfl) (by kernel_rfl) (fun _ _ _ h => h) (Or.inl ⟨by rfl, ?_⟩) (by assumption) ?_
                    rotate_left
                    · intro w hSw
                      have hcell := HQT.out
                      clear hSw
                      go_simp
                      try with_reducible rfl
                    try simp only [Act.put, List.setIfInBounds_toArray, List.set_cons_zero, List.set_cons_succ, List.getElem_toArray, List.getElem_cons_zero, List.getElem_cons_succ]
                    refine wpAnyH_take (i := 8) (v := ?_) rfl (by kernel_rfl) (by kernel_rfl) (by kernel_rfl) (fun _ _ _ h => h) (Or.inl ⟨by rfl, ?_⟩) (by assumption) ?_
                    rotate_left
                    · intro w hSw
                      (try dsimp only at hSw)
                      go_simp
                      try with_reducible rfl
                    try simp only [Act.put, List.setIfInBounds_toArray, List.set_cons_zero, List.set_cons_succ, List.getElem_toArray, List.getElem_cons_zero, List.getElem_cons_succ]
                    refine wpAnyH_take (i := 9) (v := ?_) rfl (by kernel_rfl) (by kernel_rfl) (by kernel_rfl) (fun _ _ _ h => h) (Or.inl ⟨by rfl, ?_⟩) (by assumption) ?_
                    rotate_left
                    · intro w hSw
                      (try dsimp only at hSw)
                      go_simp
                      try with_reducible rfl
                    try simp only [Act.put, List.setIfInBounds_toArray, List.set_cons_zero, List.set_cons_succ, List.getElem_toArray, List.getElem_cons_zero, List.getElem_cons_succ]
                    refine wpAnyH_take (i := 10) (v := ?_) rfl (by kernel_rfl) (by kernel_rfl) (by kernel_rfl) (fun _ _ _ h => h) (Or.inl ⟨by rfl, ?_⟩) (by assumption) ?_
                    rotate_left
                    · intro w hSw
                      (try dsimp only at hSw)
                      go_simp
                      try with_reducible rfl
                    try simp only [Act.put, List.setIfInBounds_toArray, List.set_cons_zero, List.set_cons_succ, List.getElem_toArray, List.getElem_cons_zero, List.getElem_cons_succ]
                    refine wpAnyH_take (i := 11) (v := ?_) rfl (by kernel_rfl) (by kernel_rfl) (by kernel_rfl) (fun _ _ _ h => h) (Or.inl ⟨by rfl, ?_⟩) (by assumption) ?_
                    rotate_left
                    · intro w hSw
                      have hcell := (HRM.out w z hSw.1).2
                      clear hSw
                      go_simp
                      try with_reducible rfl
                    try simp only [Act.put, List.setIfInBounds_toArray, List.set_cons_zero, List.set_cons_succ, List.getElem_toArray, List.getElem_cons_zero, List.getElem_cons_succ]
                    refine wpAnyH_take (i := 12) (v := ?_) rfl (by kernel_rfl) (by kernel_rfl) (by kernel_rfl) (fun _ _ _ h => h) (Or.inl ⟨by rfl, ?_⟩) (by assumption) ?_
                    rotate_left
                    · intro w hSw
                      (try dsimp only at hSw)
                      go_simp
                      try with_reducible rfl
                    try simp only [Act.put, List.setIfInBounds_toArray, List.set_cons_zero, List.set_cons_succ, List.getElem_toArray, List.getElem_cons_zero, List.getElem_cons_succ]
                    refine wpAnyH_take (i := 13) (v := ?_) rfl (by kernel_rfl) (by kernel_rfl) (by kernel_rfl) (fun _ _ _ h => h) (Or.inl ⟨by rfl, ?_⟩) (by assumption) ?_
                    rotate_left
                    · intro w hSw
                      (try dsimp only at hSw)
                      go_simp
                      try with_reducible rfl
                    try simp only [Act.put, List.setIfInBounds_toArray, List.set_cons_zero, List.set_cons_succ, List.getElem_toArray, List.getElem_cons_zero, List.getElem_cons_succ]
                    refine wpAnyH_take (i := 14) (v := ?_) rfl (by kernel_rfl) (by kernel_rfl) (by kernel_rfl) (fun _ _ _ h => h) (Or.inl ⟨by rfl, ?_⟩) (by assumption) ?_
                    rotate_left
                    · intro w hSw
                      (try dsimp only at hSw)
                      go_simp
                      try with_reducible rfl
                    try simp only [Act.put, List.setIfInBounds_toArray, List.set_cons_zero, List.set_cons_succ, List.getElem_toArray, List.getElem_cons_zero, List.getElem_cons_succ]
                    refine wpAnyH_take (i := 15) (v := .agg (List.toArray (dl (ratT R.k R.v)))) rfl (by kernel_rfl) (by kernel_rfl) (by kernel_rfl) (fun _ _ _ h => h) (yieldsIf_load_mid (by rfl) _ _ rfl _ _ rfl (dl (ratT R.k R.v)) _ (fun w hSw => (Bk.range (pre := []) (post := []) (by simpa using hSw.2.2) rfl)) Try.underlying29 rfl (dg_sz HP2O.out)) (by assumption) ?_
                    try simp only [Act.put, List.setIfInBounds_toArray, List.set_cons_zero, List.set_cons_succ, List.getElem_toArray, List.getElem_cons_zero, List.getElem_cons_succ]
                    refine wpAnyH_take (i := 16) (v := .agg (List.toArray (ca2))) rfl (by kernel_rfl) (by kernel_rfl) (by kernel_rfl) (fun _ _ _ h => h) (yieldsIf_load_mid (by rfl) _ _ rfl _ _ rfl (ca2) _ (fun w hSw => (Bk.range (pre := []) (post := []) (by simpa using hSw.1) rfl)) Try.underlying25 rfl (HPUa.out.pt.ra.info)) (by assumption) ?_
                    try simp only [Act.put, List.setIfInBounds_toArray, List.set_cons_zero, List.set_cons_succ, List.getElem_toArray, List.getElem_cons_zero, List.getElem_cons_succ]
                    refine wpAnyH_ready (rs := [17]) (by kernel_rfl) (by simp) ?_
                    refine AllReadyH.cons rfl (fun K hK => ?_) AllReadyH.nil
                    go_simp
                    (go_at_call 32; refine (rthAt (HPUb.out.pt.ra.rth HPUb.out.pt.hb)).mono ?_; rintro e wd ⟨rfl, hbn⟩; have HPUd := Lib.hid (HPUb.out.later hbn); have HKPd := Lib.hid (HKPb.out.later hbn); have HKQd := Lib.hid (HKQb.out.later hbn); clear hbn)
                    refine hK.out _ _ (⟨HPUd.out.pt.p, HKPd.out, HKQd.out⟩) (fun hHeld => ?_)
                    clear hK K
                    try simp only [Act.put, List.setIfInBounds_toArray, List.set_cons_zero, List.set_cons_succ, List.getElem_toArray, List.getElem_cons_zero, List.getElem_cons_succ]
                    refine wpAnyH_take (i := 18) (v := ?_) rfl (by kernel_rfl) (by kernel_rfl) (by kernel_rfl) (fun _ _ _ h => h) (Or.inl ⟨by rfl, ?_⟩) (by assumption) ?_
                    rotate_left
                    · intro w hSw
                      have hcell := HQA.out
                      clear hSw
                      go_simp
                      try with_reducible rfl
                    try simp only [Act.put, List.setIfInBounds_toArray, List.set_cons_zero, List.set_cons_succ, List.getElem_toArray, List.getElem_cons_zero, List.getElem_cons_succ]
                    refine wpAnyH_take (i := 19) (v := ?_) rfl (by kernel_rfl) (by kernel_rfl) (by kernel_rfl) (fun _ _ _ h => h) (Or.inl ⟨by rfl, ?_⟩) (by assumption) ?_
                    rotate_left
                    · intro w hSw
                      (try dsimp only at hSw)
                      go_simp
                      try with_reducible rfl
                    try simp only [Act.put, List.setIfInBounds_toArray, List.set_cons_zero, List.set_cons_succ, List.getElem_toArray, List.getElem_cons_zero, List.getElem_cons_succ]
                    refine wpAnyH_take (i := 20) (v := ?_) rfl (by kernel_rfl) (by kernel_rfl) (by kernel_rfl) (fun _ _ _ h => h) (Or.inl ⟨by rfl, ?_⟩) (by assumption) ?_
                    rotate_left
                    · intro w hSw
                      (try dsimp only at hSw)
                      go_simp
                      try with_reducible rfl
                    try simp only [Act.put, List.setIfInBounds_toArray, List.set_cons_zero, List.set_cons_succ, List.getElem_toArray, List.getElem_cons_zero, List.getElem_cons_succ]
                    refine wpAnyH_done (by kernel_rfl) ?_ _
                    go_wp2_with fail
                    go_meet
                    exact ⟨rfl, HPUd.out⟩
                  ·
                    have d0 : (c1 == 0) = false := by simpa using c0
                    have d1 : decide (c1 = 0) = false := by simpa using c0
                    refine wpAnyH_take (i := 2) (v := ?_) rfl (by kernel_rfl) (by kernel_rfl) (by kernel_rfl) (fun _ _ _ h => h) (Or.inl ⟨by rfl, ?_⟩) (by assumption) ?_
                    rotate_left
                    · intro w hSw
                      (try dsimp only at hSw)
                      go_simp
                      try with_reducible rfl
                    try simp only [Act.put, List.setIfInBounds_toArray, List.set_cons_zero, List.set_cons_succ, List.getElem_toArray, List.getElem_cons_zero, List.getElem_cons_succ]
                    refine wpAnyH_take (i := 3) (v := ?_) rfl (by kernel_rfl) (by kernel_rfl) (by kernel_rfl) (fun _ _ _ h => h) (Or.inl ⟨by rfl, ?_⟩) (by assumption) ?_
                    rotate_left
                    · intro w hSw
                      (try dsimp only at hSw)
                      go_simp
                      try with_reducible rfl
                    try simp only [Act.put, List.setIfInBounds_toArray, List.set_cons_zero, List.set_cons_succ, List.getElem_toArray, List.getElem_cons_zero, List.getElem_cons_succ]
                    refine wpAnyH_take (i := 4) (v := undef) rfl (by kernel_rfl) (by kernel_rfl) (by kernel_rfl) (fun _ _ _ h => h) (Or.inr ⟨by rfl, rfl⟩) (by assumption) ?_
                    try simp only [Act.put, List.setIfInBounds_toArray, List.set_cons_zero, List.set_cons_succ, List.getElem_toArray, List.getElem_cons_zero, List.getElem_cons_succ]
                    refine wpAnyH_take (i := 5) (v := undef) rfl (by kernel_rfl) (by kernel_rfl) (by kernel_rfl) (fun _ _ _ h => h) (Or.inr ⟨by rfl, rfl⟩) (by assumption) ?_
                    try simp only [Act.put, List.setIfInBounds_toArray, List.set_cons_zero, List.set_cons_succ, List.getElem_toArray, List.getElem_cons_zero, List.getElem_cons_succ]
                    refine wpAnyH_take (i := 6) (v := undef) rfl (by kernel_rfl) (by kernel_rfl) (by kernel_rfl) (fun _ _ _ h => h) (Or.inr ⟨by rfl, rfl⟩) (by assumption) ?_
                    try simp only [Act.put, List.setIfInBounds_toArray, List.set_cons_zero, List.set_cons_succ, List.getElem_toArray, List.getElem_cons_zero, List.getElem_cons_succ]
                    refine wpAnyH_take (i := 7) (v := undef) rfl (by kernel_rfl) (by kernel_rfl) (by kernel_rfl) (fun _ _ _ h => h) (Or.inr ⟨by rfl, rfl⟩) (by assumption) ?_
                    try simp only [Act.put, List.setIfInBounds_toArray, List.set_cons_zero, List.set_cons_succ, List.getElem_toArray, List.getElem_cons_zero, List.getElem_cons_succ]
                    refine wpAnyH_take (i := 8) (v := undef) rfl (by kernel_rfl) (by kernel_rfl) (by kernel_rfl) (fun _ _ _ h => h) (Or.inr ⟨by rfl, rfl⟩) (by assumption) ?_
                    try simp only [Act.put, List.setIfInBounds_toArray, List.set_cons_zero, List.set_cons_succ, List.getElem_toArray, List.getElem_cons_zero, List.getElem_cons_succ]
                    refine wpAnyH_take (i := 9) (v := undef) rfl (by kernel_rfl) (by kernel_rfl) (by kernel_rfl) (fun _ _ _ h => h) (Or.inr ⟨by rfl, rfl⟩) (by assumption) ?_
                    try simp only [Act.put, List.setIfInBounds_toArray, List.set_cons_zero, List.set_cons_succ, List.getElem_toArray, List.getElem_cons_zero, List.getElem_cons_succ]
                    refine wpAnyH_take (i := 10) (v := undef) rfl (by kernel_rfl) (by kernel_rfl) (by kernel_rfl) (fun _ _ _ h => h) (Or.inr ⟨by rfl, rfl⟩) (by assumption) ?_
                    try simp only [Act.put, List.setIfInBounds_toArray, List.set_cons_zero, List.set_cons_succ, List.getElem_toArray, List.getElem_cons_zero, List.getElem_cons_succ]
                    refine wpAnyH_take (i := 11) (v := undef) rfl (by kernel_rfl) (by kernel_rfl) (by kernel_rfl) (fun _ _ _ h => h) (Or.inr ⟨by rfl, rfl⟩) (by assumption) ?_
                    try simp only [Act.put, List.setIfInBounds_toArray, List.set_cons_zero, List.set_cons_succ, List.getElem_toArray, List.getElem_cons_zero, List.getElem_cons_succ]
                    refine wpAnyH_take (i := 12) (v := undef) rfl (by kernel_rfl) (by kernel_rfl) (by kernel_rfl) (fun _ _ _ h => h) (Or.inr ⟨by rfl, rfl⟩) (by assumption) ?_
                    try simp only [Act.put, List.setIfInBounds_toArray, List.set_cons_zero, List.set_cons_succ, List.getElem_toArray, List.getElem_cons_zero, List.getElem_cons_succ]
                    refine wpAnyH_take (i := 13) (v := undef) rfl (by kernel_rfl) (by kernel_rfl) (by kernel_rfl) (fun _ _ _ h => h) (Or.inr ⟨by rfl, rfl⟩) (by assumption) ?_
                    try simp only [Act.put, List.setIfInBounds_toArray, List.set_cons_zero, List.set_cons_succ, List.getElem_toArray, List.getElem_cons_zero, List.getElem_cons_succ]
                    refine wpAnyH_take (i := 14) (v := undef) rfl (by kernel_rfl) (by kernel_rfl) (by kernel_rfl) (fun _ _ _ h => h) (Or.inr ⟨by rfl, rfl⟩) (by assumption) ?_
                    try simp only [Act.put, List.setIfInBounds_toArray, List.set_cons_zero, List.set_cons_succ, List.getElem_toArray, List.getElem_cons_zero, List.getElem_cons_succ]
                    refine wpAnyH_take (i := 15) (v := undef) rfl (by kernel_rfl) (by kernel_rfl) (by kernel_rfl) (fun _ _ _ h => h) (Or.inr ⟨by rfl, rfl⟩) (by assumption) ?_
                    try simp only [Act.put, List.setIfInBounds_toArray, List.set_cons_zero, List.set_cons_succ, List.getElem_toArray, List.getElem_cons_zero, List.getElem_cons_succ]
                    refine wpAnyH_take (i := 16) (v := undef) rfl (by kernel_rfl) (by kernel_rfl) (by kernel_rfl) (fun _ _ _ h => h) (Or.inr ⟨by rfl, rfl⟩) (by assumption) ?_
                    try simp only [Act.put, List.setIfInBounds_toArray, List.set_cons_zero, List.set_cons_succ, List.getElem_toArray, List.getElem_cons_zero, List.getElem_cons_succ]
                    refine wpAnyH_take (i := 17) (v := undef) rfl (by kernel_rfl) (by kernel_rfl) (by kernel_rfl) (fun _ _ _ h => h) (Or.inr ⟨by rfl, rfl⟩) (by assumption) ?_
                    try simp only [Act.put, List.setIfInBounds_toArray, List.set_cons_zero, List.set_cons_succ, List.getElem_toArray, List.getElem_cons_zero, List.getElem_cons_succ]
                    refine wpAnyH_take (i := 18) (v := undef) rfl (by kernel_rfl) (by kernel_rfl) (by kernel_rfl) (fun _ _ _ h => h) (Or.inr ⟨by rfl, rfl⟩) (by assumption) ?_
                    try simp only [Act.put, List.setIfInBounds_toArray, List.set_cons_zero, List.set_cons_succ, List.getElem_toArray, List.getElem_cons_zero, List.getElem_cons_succ]
                    refine wpAnyH_take (i := 19) (v := undef) rfl (by kernel_rfl) (by kernel_rfl) (by kernel_rfl) (fun _ _ _ h => h) (Or.inr ⟨by rfl, rfl⟩) (by assumption) ?_
                    try simp only [Act.put, List.setIfInBounds_toArray, List.set_cons_zero, List.set_cons_succ, List.getElem_toArray, List.getElem_cons_zero, List.getElem_cons_succ]
                    refine wpAnyH_take (i := 20) (v := ?_) rfl (by kernel_rfl) (by kernel_rfl) (by kernel_rfl) (fun _ _ _ h => h) (Or.inl ⟨by rfl, ?_⟩) (by assumption) ?_
                    rotate_left
                    · intro w hSw
                      (try dsimp only at hSw)
                      go_simp
                      try with_reducible rfl
                    try simp only [Act.put, List.setIfInBounds_toArray, List.set_cons_zero, List.set_cons_succ, List.getElem_toArray, List.getElem_cons_zero, List.getElem_cons_succ]
                    refine wpAnyH_done (by kernel_rfl) ?_ _
                    go_wp2_with fail
                    go_meet
                    exact ⟨rfl, HPUb.out⟩
                obtain ⟨rfl, hpu⟩ := hcut
                obtain ⟨w15, hw15⟩ : ∃ w15, w15 = wc := ⟨_, rfl⟩
                subst hw15
                have HPU15 := hpu
                clear hpu HPU14 HKP14 HKQ14
                refine ‹∀ (a : Act) (w : World), Code.wp _ _ _ a w → _› _ _ ?_
                as_aux_lemma =>
                  go_upto_region 17 with fail
                  have HTW : Hid (twT es2 dw (keyD y2) (toT R) (toT S) = rtwR dw R S (v1 && v2)) := by
                    have h1 := HV1.out; have h2 := HV2.out
                    rw [toT_dg, toT_ss] at h1 h2
                    show _ = _
                    rw [tw_agree, h1, h2]
                  obtain ⟨E, hE⟩ : ∃ E, rtwR dw R S (v1 && v2) = E := ⟨_, rfl⟩
                  have HRW := Lib.hid hE
                  rw [hE] at HTW
                  have HTC : Hid (checkT (toT R).k (toT R).n (toT R).m (toT R).t (toT R).u (toT R).v (toT R).ps (toT R).qs (toT R).ss = c1) := by show _ = _; rw [toT_check]; exact HC1.out
                  have HTD := Lib.hid (toT_dg R)
                  have HQD := Lib.hid (fun W => eqSelf (rdgR_ok R) W)
                  clear hE HV1 HV2
                  refine wp_region_held_drew (S := fun w' => Bk w' gx 35 cx1 ∧ Bk w' gy 35 cy1 ∧ Bk w' z 25 ca2 ∧ Bk w' (z + 1) 25 cb2 ∧ Bk w' (z + 2) 22 (dl dw) ∧ Bk w' g8 29 (dl (keyD y2))) (by kernel_rfl) ⟨Bk.drew HPU15.out.pt.x, Bk.drew HPU15.out.pt.yy, Bk.drew HPU15.out.pt.p, Bk.drew HPU15.out.pt.q, Bk.drew HPU15.out.pt.d, Bk.drew HPU15.out.ky⟩ (fun hHeld => ?_)
                  have hbd : Below w15.heap.size w15 w15.drew := below_draws w15 w15.heap.size 1
                  obtain ⟨wa, hwa⟩ : ∃ wa, w15.drew = wa := ⟨_, rfl⟩
                  rw [hwa] at hbd hHeld ⊢
                  have HPUa := Lib.hid (HPU15.out.later hbd)
                  clear hwa hbd
                  refine wpAnyH_take (i := 0) (v := .agg (List.toArray (cx1))) rfl (by kernel_rfl) (by kernel_rfl) (by kernel_rfl) (fun _ _ _ h => h) (yieldsIf_load_mid (by rfl) _ _ rfl _ _ rfl (cx1) _ (fun w hSw => (Bk.range (pre := []) (post := []) (by simpa using hSw.1) rfl)) Try.underlying35 rfl (HPUa.out.pt.tx.info)) (by assumption) ?_
                  try simp only [Act.put, List.setIfInBounds_toArray, List.set_cons_zero, List.set_cons_succ, List.getElem_toArray, List.getElem_cons_zero, List.getElem_cons_succ]
                  refine wpAnyH_take (i := 2) (v := .agg (List.toArray (ca2))) rfl (by kernel_rfl) (by kernel_rfl) (by kernel_rfl) (fun _ _ _ h => h) (yieldsIf_load_mid (by rfl) _ _ rfl _ _ rfl (ca2) _ (fun w hSw => (Bk.range (pre := []) (post := []) (by simpa using hSw.2.2.1) rfl)) Try.underlying25 rfl (HPUa.out.pt.ra.info)) (by assumption) ?_
                  try simp only [Act.put, List.setIfInBounds_toArray, List.set_cons_zero, List.set_cons_succ, List.getElem_toArray, List.getElem_cons_zero, List.getElem_cons_succ]
                  refine wpAnyH_ready (rs := [1]) (by kernel_rfl) (by simp) ?_
                  refine AllReadyH.cons rfl (fun K hK => ?_) AllReadyH.nil
                  go_simp
                  (go_at_call 33; refine (thCheck (HPUa.out.pt.tx.thg HPUa.out.pt.hb)).mono ?_; rintro e wb ⟨he, hbn⟩; rw [HTC.out] at he; subst he; have HPUb := Lib.hid (HPUa.out.later hbn); clear hbn)
                  refine hK.out _ _ (⟨HPUb.out.pt.x, HPUb.out.pt.yy, HPUb.out.pt.p, HPUb.out.pt.q, HPUb.out.pt.d, HPUb.out.ky⟩) (fun hHeld => ?_)
                  clear hK K
                  try simp only [Act.put, List.setIfInBounds_toArray, List.set_cons_zero, List.set_cons_succ, List.getElem_toArray, List.getElem_cons_zero, List.getElem_cons_succ]
                  refine wpAnyH_ready (rs := [3]) (by kernel_rfl) (by simp) ?_
                  refine AllReadyH.cons rfl (fun K hK => ?_) AllReadyH.nil
                  go_simp
                  (go_at_call 31; refine (rthCheck (HPUb.out.pt.ra.rth HPUb.out.pt.hb)).mono ?_; rintro e wd ⟨he, hbn⟩; rw [HC1.out] at he; subst he; have HPUd := Lib.hid (HPUb.out.later hbn); clear hbn)
                  refine hK.out _ _ (⟨HPUd.out.pt.x, HPUd.out.pt.yy, HPUd.out.pt.p, HPUd.out.pt.q, HPUd.out.pt.d, HPUd.out.ky⟩) (fun hHeld => ?_)
                  clear hK K
                  try simp only [Act.put, List.setIfInBounds_toArray, List.set_cons_zero, List.set_cons_succ, List.getElem_toArray, List.getElem_cons_zero, List.getElem_cons_succ]
                  refine wpAnyH_take (i := 4) (v := ?_) rfl (by kernel_rfl) (by kernel_rfl) (by kernel_rfl) (fun _ _ _ h => h) (Or.inl ⟨by rfl, ?_⟩) (by assumption) ?_
                  rotate_left
                  · intro w hSw
                    (try dsimp only at hSw)
                    go_simp
                    try with_reducible rfl
                  try simp only [Act.put, List.setIfInBounds_toArray, List.set_cons_zero, List.set_cons_succ, List.getElem_toArray, List.getElem_cons_zero, List.getElem_cons_succ]
                  refine wpAnyH_take (i := 5) (v := ?_) rfl (by kernel_rfl) (by kernel_rfl) (by kernel_rfl) (fun _ _ _ h => h) (Or.inl ⟨by rfl, ?_⟩) (by assumption) ?_
                  rotate_left
                  · intro w hSw
                    (try dsimp only at hSw)
                    go_simp
                    try with_reducible rfl
                  try simp only [Act.put, List.setIfInBounds_toArray, List.set_cons_zero, List.set_cons_succ, List.getElem_toArray, List.getElem_cons_zero, List.getElem_cons_succ]
                  refine wpAnyH_take (i := 6) (v := .agg (List.toArray (cx1))) rfl (by kernel_rfl) (by kernel_rfl) (by kernel_rfl) (fun _ _ _ h => h) (yieldsIf_load_mid (by rfl) _ _ rfl _ _ rfl (cx1) _ (fun w hSw => (Bk.range (pre := []) (post := []) (by simpa using hSw.1) rfl)) Try.underlying35 rfl (HPUa.out.pt.tx.info)) (by assumption) ?_
                  try simp only [Act.put, List.setIfInBounds_toArray, List.set_cons_zero, List.set_cons_succ, List.getElem_toArray, List.getElem_cons_zero, List.getElem_cons_succ]
                  refine wpAnyH_take (i := 8) (v := .agg (List.toArray (ca2))) rfl (by kernel_rfl) (by kernel_rfl) (by kernel_rfl) (fun _ _ _ h => h) (yieldsIf_load_mid (by rfl) _ _ rfl _ _ rfl (ca2) _ (fun w hSw => (Bk.range (pre := []) (post := []) (by simpa using hSw.2.2.1) rfl)) Try.underlying25 rfl (HPUa.out.pt.ra.info)) (by assumption) ?_
                  try simp only [Act.put, List.setIfInBounds_toArray, List.set_cons_zero, List.set_cons_succ, List.getElem_toArray, List.getElem_cons_zero, List.getElem_cons_succ]
                  refine wpAnyH_ready (rs := [7]) (by kernel_rfl) (by simp) ?_
                  refine AllReadyH.cons rfl (fun K hK => ?_) AllReadyH.nil
                  go_simp
                  (go_at_call 28; refine (thDigest (HPUd.out.pt.tx.thg HPUd.out.pt.hb)).mono ?_; rintro e we ⟨he, hbn⟩; rw [HTD.out] at he; subst he; have HPUe := Lib.hid (HPUd.out.later hbn); clear hbn)
                  refine hK.out _ _ (⟨HPUe.out.pt.x, HPUe.out.pt.yy, HPUe.out.pt.p, HPUe.out.pt.q, HPUe.out.pt.d, HPUe.out.ky⟩) (fun hHeld => ?_)
                  clear hK K
                  try simp only [Act.put, List.setIfInBounds_toArray, List.set_cons_zero, List.set_cons_succ, List.getElem_toArray, List.getElem_cons_zero, List.getElem_cons_succ]
                  refine wpAnyH_ready (rs := [9]) (by kernel_rfl) (by simp) ?_
                  refine AllReadyH.cons rfl (fun K hK => ?_) AllReadyH.nil
                  go_simp
                  (go_at_call 34; refine (rthDigest (HPUe.out.pt.ra.rth HPUe.out.pt.hb)).mono ?_; rintro e wf ⟨rfl, hbn⟩; have HPUf := Lib.hid (HPUe.out.later hbn); clear hbn)
                  refine hK.out _ _ (⟨HPUf.out.pt.x, HPUf.out.pt.yy, HPUf.out.pt.p, HPUf.out.pt.q, HPUf.out.pt.d, HPUf.out.ky⟩) (fun hHeld => ?_)
                  clear hK K
                  try simp only [Act.put, List.setIfInBounds_toArray, List.set_cons_zero, List.set_cons_succ, List.getElem_toArray, List.getElem_cons_zero, List.getElem_cons_succ]
                  refine wpAnyH_take (i := 10) (v := ?_) rfl (by kernel_rfl) (by kernel_rfl) (by kernel_rfl) (fun _ _ _ h => h) (Or.inl ⟨by rfl, ?_⟩) (by assumption) ?_
                  rotate_left
                  · intro w hSw
                    have hcell := HQD.out
                    clear hSw
                    go_simp
                    try with_reducible rfl
                  try simp only [Act.put, List.setIfInBounds_toArray, List.set_cons_zero, List.set_cons_succ, List.getElem_toArray, List.getElem_cons_zero, List.getElem_cons_succ]
                  refine wpAnyH_take (i := 11) (v := ?_) rfl (by kernel_rfl) (by kernel_rfl) (by kernel_rfl) (fun _ _ _ h => h) (Or.inl ⟨by rfl, ?_⟩) (by assumption) ?_
                  rotate_left
                  · intro w hSw
                    (try dsimp only at hSw)
                    go_simp
                    try with_reducible rfl
                  try simp only [Act.put, List.setIfInBounds_toArray, List.set_cons_zero, List.set_cons_succ, List.getElem_toArray, List.getElem_cons_zero, List.getElem_cons_succ]
                  refine wpAnyH_take (i := 12) (v := ?_) rfl (by kernel_rfl) (by kernel_rfl) (by kernel_rfl) (fun _ _ _ h => h) (Or.inl ⟨by rfl, ?_⟩) (by assumption) ?_
                  rotate_left
                  · intro w hSw
                    (try dsimp only at hSw)
                    go_simp
                    try with_reducible rfl
                  try simp only [Act.put, List.setIfInBounds_toArray, List.set_cons_zero, List.set_cons_succ, List.getElem_toArray, List.getElem_cons_zero, List.getElem_cons_succ]
                  refine wpAnyH_take (i := 13) (v := ?_) rfl (by kernel_rfl) (by kernel_rfl) (by kernel_rfl) (fun _ _ _ h => h) (Or.inl ⟨by rfl, ?_⟩) (by assumption) ?_
                  rotate_left
                  · intro w hSw
                    (try dsimp only at hSw)
                    go_simp
                    try with_reducible rfl
                  try simp only [Act.put, List.setIfInBounds_toArray, List.set_cons_zero, List.set_cons_succ, List.getElem_toArray, List.getElem_cons_zero, List.getElem_cons_succ]
                  refine wpAnyH_take (i := 15) (v := .agg (List.toArray (dl dw))) rfl (by kernel_rfl) (by kernel_rfl) (by kernel_rfl) (fun _ _ _ h => h) (yieldsIf_load_mid (by rfl) _ _ rfl _ _ rfl (dl dw) _ (fun w hSw => (Bk.range (pre := []) (post := []) (by simpa using hSw.2.2.2.2.1) rfl)) Try.underlying22 rfl (rdg_sz HDW.out)) (by assumption) ?_
                  try simp only [Act.put, List.setIfInBounds_toArray, List.set_cons_zero, List.set_cons_succ, List.getElem_toArray, List.getElem_cons_zero, List.getElem_cons_succ]
                  refine wpAnyH_take (i := 16) (v := .agg (List.toArray (dl (keyD y2)))) rfl (by kernel_rfl) (by kernel_rfl) (by kernel_rfl) (fun _ _ _ h => h) (yieldsIf_load_mid (by rfl) _ _ rfl _ _ rfl (dl (keyD y2)) _ (fun w hSw => (Bk.range (pre := []) (post := []) (by simpa using hSw.2.2.2.2.2) rfl)) Try.underlying29 rfl (dg_sz (keyD_ok y2))) (by assumption) ?_
                  try simp only [Act.put, List.setIfInBounds_toArray, List.set_cons_zero, List.set_cons_succ, List.getElem_toArray, List.getElem_cons_zero, List.getElem_cons_succ]
                  refine wpAnyH_take (i := 17) (v := .agg (List.toArray (cx1))) rfl (by kernel_rfl) (by kernel_rfl) (by kernel_rfl) (fun _ _ _ h => h) (yieldsIf_load_mid (by rfl) _ _ rfl _ _ rfl (cx1) _ (fun w hSw => (Bk.range (pre := []) (post := []) (by simpa using hSw.1) rfl)) Try.underlying35 rfl (HPUa.out.pt.tx.info)) (by assumption) ?_
                  try simp only [Act.put, List.setIfInBounds_toArray, List.set_cons_zero, List.set_cons_succ, List.getElem_toArray, List.getElem_cons_zero, List.getElem_cons_succ]
                  refine wpAnyH_take (i := 18) (v := .agg (List.toArray (cy1))) rfl (by kernel_rfl) (by kernel_rfl) (by kernel_rfl) (fun _ _ _ h => h) (yieldsIf_load_mid (by rfl) _ _ rfl _ _ rfl (cy1) _ (fun w hSw => (Bk.range (pre := []) (post := []) (by simpa using hSw.2.1) rfl)) Try.underlying35 rfl (HPUa.out.pt.ty.info)) (by assumption) ?_
                  try simp only [Act.put, List.setIfInBounds_toArray, List.set_cons_zero, List.set_cons_succ, List.getElem_toArray, List.getElem_cons_zero, List.getElem_cons_succ]
                  refine wpAnyH_take (i := 20) (v := .agg (List.toArray (dl dw))) rfl (by kernel_rfl) (by kernel_rfl) (by kernel_rfl) (fun _ _ _ h => h) (yieldsIf_load_mid (by rfl) _ _ rfl _ _ rfl (dl dw) _ (fun w hSw => (Bk.range (pre := []) (post := []) (by simpa using hSw.2.2.2.2.1) rfl)) Try.underlying22 rfl (rdg_sz HDW.out)) (by assumption) ?_
                  try simp only [Act.put, List.setIfInBounds_toArray, List.set_cons_zero, List.set_cons_succ, List.getElem_toArray, List.getElem_cons_zero, List.getElem_cons_succ]
                  refine wpAnyH_take (i := 21) (v := .agg (List.toArray (ca2))) rfl (by kernel_rfl) (by kernel_rfl) (by kernel_rfl) (fun _ _ _ h => h) (yieldsIf_load_mid (by rfl) _ _ rfl _ _ rfl (ca2) _ (fun w hSw => (Bk.range (pre := []) (post := []) (by simpa using hSw.2.2.1) rfl)) Try.underlying25 rfl (HPUa.out.pt.ra.info)) (by assumption) ?_
                  try simp only [Act.put, List.setIfInBounds_toArray, List.set_cons_zero, List.set_cons_succ, List.getElem_toArray, List.getElem_cons_zero, List.getElem_cons_succ]
                  refine wpAnyH_take (i := 22) (v := .agg (List.toArray (cb2))) rfl (by kernel_rfl) (by kernel_rfl) (by kernel_rfl) (fun _ _ _ h => h) (yieldsIf_load_mid (by rfl) _ _ rfl _ _ rfl (cb2) _ (fun w hSw => (Bk.range (pre := []) (post := []) (by simpa using hSw.2.2.2.1) rfl)) Try.underlying25 rfl (HPUa.out.pt.rb.info)) (by assumption) ?_
                  try simp only [Act.put, List.setIfInBounds_toArray, List.set_cons_zero, List.set_cons_succ, List.getElem_toArray, List.getElem_cons_zero, List.getElem_cons_succ]
                  refine wpAnyH_take (i := 23) (v := ?_) rfl (by kernel_rfl) (by kernel_rfl) (by kernel_rfl) (fun _ _ _ h => h) (Or.inl ⟨by rfl, ?_⟩) (by assumption) ?_
                  rotate_left
                  · intro w hSw
                    (try dsimp only at hSw)
                    go_simp
                    try with_reducible rfl
                  try simp only [Act.put, List.setIfInBounds_toArray, List.set_cons_zero, List.set_cons_succ, List.getElem_toArray, List.getElem_cons_zero, List.getElem_cons_succ]
                  refine wpAnyH_take (i := 14) (v := ?_) rfl (by kernel_rfl) (by kernel_rfl) (by kernel_rfl) (fun _ _ _ h => h) (Or.inl ⟨by rfl, ?_⟩) (by assumption) ?_
                  rotate_left
                  · intro w hSw
                    (try dsimp only at hSw)
                    go_simp
                    try with_reducible rfl
                  try simp only [Act.put, List.setIfInBounds_toArray, List.set_cons_zero, List.set_cons_succ, List.getElem_toArray, List.getElem_cons_zero, List.getElem_cons_succ]
                  refine wpAnyH_ready (rs := [19]) (by kernel_rfl) (by simp) ?_
                  refine AllReadyH.cons rfl (fun K hK => ?_) AllReadyH.nil
                  go_simp
                  (go_at_call 35; refine (twice_any wf lo g es2 HPUf.out.pt.bk (by have := HL2.out; omega) dw (keyD y2) HDW.out (keyD_ok _) cx1 cy1 (toT R) (toT S) (HPUf.out.pt.tx.thg HPUf.out.pt.hb) (HPUf.out.pt.ty.thg HPUf.out.pt.hb)).mono ?_; rintro e wg ⟨he, hbn⟩; rw [HTW.out] at he; subst he; have HPUg := Lib.hid (HPUf.out.later hbn); clear hbn)
                  refine hK.out _ _ (⟨HPUg.out.pt.x, HPUg.out.pt.yy, HPUg.out.pt.p, HPUg.out.pt.q, HPUg.out.pt.d, HPUg.out.ky⟩) (fun hHeld => ?_)
                  clear hK K
                  try simp only [Act.put, List.setIfInBounds_toArray, List.set_cons_zero, List.set_cons_succ, List.getElem_toArray, List.getElem_cons_zero, List.getElem_cons_succ]
                  refine wpAnyH_ready (rs := [24]) (by kernel_rfl) (by simp) ?_
                  refine AllReadyH.cons rfl (fun K hK => ?_) AllReadyH.nil
                  go_simp
                  (go_at_call 36; refine (rtwice_any wg dw HDW.out ca2 cb2 R S (HPUg.out.pt.ra.rth HPUg.out.pt.hb) (HPUg.out.pt.rb.rth HPUg.out.pt.hb) (v1 && v2)).mono ?_; rintro e wh ⟨he, hbn⟩; rw [HRW.out] at he; subst he; have HPUh := Lib.hid (HPUg.out.later hbn); clear hbn)
                  refine hK.out _ _ (⟨HPUh.out.pt.x, HPUh.out.pt.yy, HPUh.out.pt.p, HPUh.out.pt.q, HPUh.out.pt.d, HPUh.out.ky⟩) (fun hHeld => ?_)
                  clear hK K
                  try simp only [Act.put, List.setIfInBounds_toArray, List.set_cons_zero, List.set_cons_succ, List.getElem_toArray, List.getElem_cons_zero, List.getElem_cons_succ]
                  refine wpAnyH_take (i := 25) (v := ?_) rfl (by kernel_rfl) (by kernel_rfl) (by kernel_rfl) (fun _ _ _ h => h) (Or.inl ⟨by rfl, ?_⟩) (by assumption) ?_
                  rotate_left
                  · intro w hSw
                    (try dsimp only at hSw)
                    go_simp
                    try with_reducible rfl
                  try simp only [Act.put, List.setIfInBounds_toArray, List.set_cons_zero, List.set_cons_succ, List.getElem_toArray, List.getElem_cons_zero, List.getElem_cons_succ]
                  refine wpAnyH_take (i := 26) (v := ?_) rfl (by kernel_rfl) (by kernel_rfl) (by kernel_rfl) (fun _ _ _ h => h) (Or.inl ⟨by rfl, ?_⟩) (by assumption) ?_
                  rotate_left
                  · intro w hSw
                    (try dsimp only at hSw)
                    go_simp
                    try with_reducible rfl
                  try simp only [Act.put, List.setIfInBounds_toArray, List.set_cons_zero, List.set_cons_succ, List.getElem_toArray, List.getElem_cons_zero, List.getElem_cons_succ]
                  refine wpAnyH_take (i := 27) (v := ?_) rfl (by kernel_rfl) (by kernel_rfl) (by kernel_rfl) (fun _ _ _ h => h) (Or.inl ⟨by rfl, ?_⟩) (by assumption) ?_
                  rotate_left
                  · intro w hSw
                    (try dsimp only at hSw)
                    go_simp
                    try with_reducible rfl
                  try simp only [Act.put, List.setIfInBounds_toArray, List.set_cons_zero, List.set_cons_succ, List.getElem_toArray, List.getElem_cons_zero, List.getElem_cons_succ]
                  refine wpAnyH_take (i := 28) (v := .agg (List.toArray (dl dw))) rfl (by kernel_rfl) (by kernel_rfl) (by kernel_rfl) (fun _ _ _ h => h) (yieldsIf_load_mid (by rfl) _ _ rfl _ _ rfl (dl dw) _ (fun w hSw => (Bk.range (pre := []) (post := []) (by simpa using hSw.2.2.2.2.1) rfl)) Try.underlying22 rfl (rdg_sz HDW.out)) (by assumption) ?_
                  try simp only [Act.put, List.setIfInBounds_toArray, List.set_cons_zero, List.set_cons_succ, List.getElem_toArray, List.getElem_cons_zero, List.getElem_cons_succ]
                  refine wpAnyH_take (i := 29) (v := .agg (List.toArray (dl (keyD y2)))) rfl (by kernel_rfl) (by kernel_rfl) (by kernel_rfl) (fun _ _ _ h => h) (yieldsIf_load_mid (by rfl) _ _ rfl _ _ rfl (dl (keyD y2)) _ (fun w hSw => (Bk.range (pre := []) (post := []) (by simpa using hSw.2.2.2.2.2) rfl)) Try.underlying29 rfl (dg_sz (keyD_ok y2))) (by assumption) ?_
                  try simp only [Act.put, List.setIfInBounds_toArray, List.set_cons_zero, List.set_cons_succ, List.getElem_toArray, List.getElem_cons_zero, List.getElem_cons_succ]
                  refine wpAnyH_take (i := 30) (v := .agg (List.toArray (cx1))) rfl (by kernel_rfl) (by kernel_rfl) (by kernel_rfl) (fun _ _ _ h => h) (yieldsIf_load_mid (by rfl) _ _ rfl _ _ rfl (cx1) _ (fun w hSw => (Bk.range (pre := []) (post := []) (by simpa using hSw.1) rfl)) Try.underlying35 rfl (HPUa.out.pt.tx.info)) (by assumption) ?_
                  try simp only [Act.put, List.setIfInBounds_toArray, List.set_cons_zero, List.set_cons_succ, List.getElem_toArray, List.getElem_cons_zero, List.getElem_cons_succ]
                  refine wpAnyH_take (i := 31) (v := .agg (List.toArray (cy1))) rfl (by kernel_rfl) (by kernel_rfl) (by kernel_rfl) (fun _ _ _ h => h) (yieldsIf_load_mid (by rfl) _ _ rfl _ _ rfl (cy1) _ (fun w hSw => (Bk.range (pre := []) (post := []) (by simpa using hSw.2.1) rfl)) Try.underlying35 rfl (HPUa.out.pt.ty.info)) (by assumption) ?_
                  try simp only [Act.put, List.setIfInBounds_toArray, List.set_cons_zero, List.set_cons_succ, List.getElem_toArray, List.getElem_cons_zero, List.getElem_cons_succ]
                  refine wpAnyH_ready (rs := [32]) (by kernel_rfl) (by simp) ?_
                  refine AllReadyH.cons rfl (fun K hK => ?_) AllReadyH.nil
                  go_simp
                  (go_at_call 35; refine (twice_nil wh (dl dw) (dl (keyD y2)) cx1 cy1).mono ?_; rintro e wi ⟨rfl, hbn⟩; have HPUi := Lib.hid (HPUh.out.later hbn); clear hbn)
                  refine hK.out _ _ (⟨HPUi.out.pt.x, HPUi.out.pt.yy, HPUi.out.pt.p, HPUi.out.pt.q, HPUi.out.pt.d, HPUi.out.ky⟩) (fun hHeld => ?_)
                  clear hK K
                  try simp only [Act.put, List.setIfInBounds_toArray, List.set_cons_zero, List.set_cons_succ, List.getElem_toArray, List.getElem_cons_zero, List.getElem_cons_succ]
                  refine wpAnyH_take (i := 33) (v := ?_) rfl (by kernel_rfl) (by kernel_rfl) (by kernel_rfl) (fun _ _ _ h => h) (Or.inl ⟨by rfl, ?_⟩) (by assumption) ?_
                  rotate_left
                  · intro w hSw
                    (try dsimp only at hSw)
                    go_simp
                    try with_reducible rfl
                  try simp only [Act.put, List.setIfInBounds_toArray, List.set_cons_zero, List.set_cons_succ, List.getElem_toArray, List.getElem_cons_zero, List.getElem_cons_succ]
                  refine wpAnyH_take (i := 34) (v := ?_) rfl (by kernel_rfl) (by kernel_rfl) (by kernel_rfl) (fun _ _ _ h => h) (Or.inl ⟨by rfl, ?_⟩) (by assumption) ?_
                  rotate_left
                  · intro w hSw
                    (try dsimp only at hSw)
                    go_simp
                    try with_reducible rfl
                  try simp only [Act.put, List.setIfInBounds_toArray, List.set_cons_zero, List.set_cons_succ, List.getElem_toArray, List.getElem_cons_zero, List.getElem_cons_succ]
                  refine wpAnyH_take (i := 35) (v := ?_) rfl (by kernel_rfl) (by kernel_rfl) (by kernel_rfl) (fun _ _ _ h => h) (Or.inl ⟨by rfl, ?_⟩) (by assumption) ?_
                  rotate_left
                  · intro w hSw
                    (try dsimp only at hSw)
                    go_simp
                    try with_reducible rfl
                  try simp only [Act.put, List.setIfInBounds_toArray, List.set_cons_zero, List.set_cons_succ, List.getElem_toArray, List.getElem_cons_zero, List.getElem_cons_succ]
                  refine wpAnyH_done (by kernel_rfl) ?_ _
                  go_wp2_with fail
                  go_ret
                  exact ⟨rfl, HPUi.out.pt.hb⟩
end Go.Proofs.Ythibihjblodfmaa
