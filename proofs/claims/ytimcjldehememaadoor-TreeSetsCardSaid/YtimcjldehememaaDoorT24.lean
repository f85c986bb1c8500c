/- TreeRoots: the walk. -/
import Derived.Test.YtimcjldehememaaDoorT23
import Derived.Test.YtimcjldehememaaDoorTF
namespace Go.Proofs.YtimcjldehememaaDoor
open Go.RowKit

theorem cells_two {w w' : World} {qa qb : Nat} {ta tb : TypeId} {a0 a1 a2 a3 a4 a5 a6 a7 b0 b1 b2 b3 b4 b5 b6 b7 : Int} (ha : DgAt w qa ta [a0, a1, a2, a3, a4, a5, a6, a7]) (hb : DgAt w qb tb [b0, b1, b2, b3, b4, b5, b6, b7]) (h : Below w.heap.size w w') :
    w'.cell? ⟨qa, 0, none⟩ = some (.int .u8 a0) ∧ w'.cell? ⟨qa, 1, none⟩ = some (.int .u8 a1) ∧ w'.cell? ⟨qa, 2, none⟩ = some (.int .u8 a2) ∧ w'.cell? ⟨qa, 3, none⟩ = some (.int .u8 a3) ∧ w'.cell? ⟨qa, 4, none⟩ = some (.int .u8 a4) ∧ w'.cell? ⟨qa, 5, none⟩ = some (.int .u8 a5) ∧ w'.cell? ⟨qa, 6, none⟩ = some (.int .u8 a6) ∧ w'.cell? ⟨qa, 7, none⟩ = some (.int .u8 a7) ∧ w'.cell? ⟨qb, 0, none⟩ = some (.int .u8 b0) ∧ w'.cell? ⟨qb, 1, none⟩ = some (.int .u8 b1) ∧ w'.cell? ⟨qb, 2, none⟩ = some (.int .u8 b2) ∧ w'.cell? ⟨qb, 3, none⟩ = some (.int .u8 b3) ∧ w'.cell? ⟨qb, 4, none⟩ = some (.int .u8 b4) ∧ w'.cell? ⟨qb, 5, none⟩ = some (.int .u8 b5) ∧ w'.cell? ⟨qb, 6, none⟩ = some (.int .u8 b6) ∧ w'.cell? ⟨qb, 7, none⟩ = some (.int .u8 b7) := by
  obtain ⟨e0, e1, e2, e3, e4, e5, e6, e7⟩ := cells8 (ha.later h)
  obtain ⟨f0, f1, f2, f3, f4, f5, f6, f7⟩ := cells8 (hb.later h)
  exact ⟨e0, e1, e2, e3, e4, e5, e6, e7, f0, f1, f2, f3, f4, f5, f6, f7⟩
theorem cells_one {w w' : World} {qa : Nat} {ta : TypeId} {a0 a1 a2 a3 a4 a5 a6 a7 : Int} (ha : DgAt w qa ta [a0, a1, a2, a3, a4, a5, a6, a7]) (h : Below w.heap.size w w') :
    w'.cell? ⟨qa, 0, none⟩ = some (.int .u8 a0) ∧ w'.cell? ⟨qa, 1, none⟩ = some (.int .u8 a1) ∧ w'.cell? ⟨qa, 2, none⟩ = some (.int .u8 a2) ∧ w'.cell? ⟨qa, 3, none⟩ = some (.int .u8 a3) ∧ w'.cell? ⟨qa, 4, none⟩ = some (.int .u8 a4) ∧ w'.cell? ⟨qa, 5, none⟩ = some (.int .u8 a5) ∧ w'.cell? ⟨qa, 6, none⟩ = some (.int .u8 a6) ∧ w'.cell? ⟨qa, 7, none⟩ = some (.int .u8 a7) := by
  obtain ⟨e0, e1, e2, e3, e4, e5, e6, e7⟩ := cells8 (ha.later h)
  exact ⟨e0, e1, e2, e3, e4, e5, e6, e7⟩

set_option maxRecDepth 20000 in
theorem law_TreeRoots (w : World) (A : Option Addr) (n c : Nat) (vs : List Int) (ho : U16 vs) (hs : Sl w w.heap.size 1 A n (vs.map (.int .u16))) :
    Calls Tryd.prog 3 #[.slice A n c] w fun e w' => e = .returned (.bool true) ∧ Below w.heap.size w w' := by
  obtain ⟨r0, r1, r2, r3, r4, r5, r6, r7, hrr⟩ := list8 (rootI (someI vs 70)) (rootI_ok _).len
  have HS := Lib.hid hs; have HO := Lib.hid ho; have HR := Lib.hid hrr
  have hn := hs.le
  have hlen : vs.length = n := hs.length
  have HL := Lib.hid hlen
  clear hs ho hrr hlen
  go_enter Tryd.func3, Tryd.ntmps3
  go_wp2_with fail
  refine (some_any _ A n c vs HO.out HS.out 70 (by decide)).mono ?_
  rintro e w1 ⟨⟨v, rfl, hown⟩, hb1⟩
  obtain ⟨B1, c1, rfl⟩ := own_form hown
  obtain ⟨m, hm, hm7⟩ : ∃ m, min 70 n = m ∧ m ≤ 70 := ⟨_, rfl, Nat.min_le_left _ _⟩
  rw [hm] at hown ⊢
  have HB1 := Lib.hid hb1
  have HDO := Lib.hid (someI_ok HO.out 70)
  have HSL := Lib.hid (Sl.of_own hown)
  clear hb1 hown hm
  go_wp2_with fail
  refine (treeRoot_any _ B1 m c1 _ HDO.out HSL.out).mono ?_
  rintro e w2 ⟨rfl, hb2⟩
  rw [HR.out, show dgA [r0, r1, r2, r3, r4, r5, r6, r7] = #[.int .u8 r0, .int .u8 r1, .int .u8 r2, .int .u8 r3, .int .u8 r4, .int .u8 r5, .int .u8 r6, .int .u8 r7] from rfl]
  have HB2 := Lib.hid (below_then HB1.out hb2)
  have HSL2 := Lib.hid (HSL.out.later hb2)
  clear hb2 HSL HB1
  go_upto_region 3 with fail
  obtain ⟨w3, hw3⟩ : ∃ w3, w2.alloc (.cells #[.int .u8 r0, .int .u8 r1, .int .u8 r2, .int .u8 r3, .int .u8 r4, .int .u8 r5, .int .u8 r6, .int .u8 r7] 26) = w3 := ⟨_, rfl⟩
  obtain ⟨g, hg⟩ : ∃ g, w2.heap.size = g := ⟨_, rfl⟩
  have k3 : DgAt w3 g 26 [r0, r1, r2, r3, r4, r5, r6, r7] := hw3 ▸ Bk.at_ _ _ _ hg rfl
  have HK3 := Lib.hid k3
  have HB3 := Lib.hid (below_then HB2.out (hw3 ▸ below_new w2 _))
  have HSL3 := Lib.hid (HSL2.out.later (hw3 ▸ below_new w2 _))
  have HG := Lib.hid hg
  rw [hw3, hg]
  clear HB2 HSL2 k3 hg hw3
  go_wp2_with fail
  refine (plain_any _ B1 m c1 _ HDO.out HSL3.out (by omega)).mono ?_
  rintro e w4 ⟨⟨v, rfl, hown⟩, hb4⟩
  obtain ⟨B4, c4, rfl⟩ := own_form hown
  have HSP := Lib.hid (Sl.of_own hown)
  have HB4 := Lib.hid (below_then HB3.out hb4)
  have HK4 := Lib.hid (HK3.out.later hb4)
  clear hb4 hown HK3 HB3
  go_wp2_with fail
  refine (rRoot_any _ B4 m c4 _ HDO.out HSP.out).mono ?_
  rintro e w5 ⟨rfl, hb5⟩
  rw [HR.out, show dgA [r0, r1, r2, r3, r4, r5, r6, r7] = #[.int .u8 r0, .int .u8 r1, .int .u8 r2, .int .u8 r3, .int .u8 r4, .int .u8 r5, .int .u8 r6, .int .u8 r7] from rfl]
  have HB5 := Lib.hid (below_then HB4.out hb5)
  have HK5 := Lib.hid (HK4.out.later hb5)
  clear hb5 HK4 HB4 HSP HSL3
  go_upto_region 4 with fail
  obtain ⟨w6, hw6⟩ : ∃ w6, w5.alloc (.cells #[.int .u8 r0, .int .u8 r1, .int .u8 r2, .int .u8 r3, .int .u8 r4, .int .u8 r5, .int .u8 r6, .int .u8 r7] 25) = w6 := ⟨_, rfl⟩
  obtain ⟨h, hh⟩ : ∃ h, w5.heap.size = h := ⟨_, rfl⟩
  have k6 : DgAt w6 h 25 [r0, r1, r2, r3, r4, r5, r6, r7] := hw6 ▸ Bk.at_ _ _ _ hh rfl
  have HK6 : Hid (DgAt w6 g 26 [r0, r1, r2, r3, r4, r5, r6, r7] ∧ DgAt w6 h 25 [r0, r1, r2, r3, r4, r5, r6, r7]) := ⟨HK5.out.later (hw6 ▸ below_new w5 _), k6⟩
  have HB6 := Lib.hid (below_then HB5.out (hw6 ▸ below_new w5 _))
  have hS6 := cells_two HK6.out.1 HK6.out.2 (Below.refl _ _)
  have heq : ∀ W, (Op.equalIn 10000 26 (.agg #[.int .u8 r0, .int .u8 r1, .int .u8 r2, .int .u8 r3, .int .u8 r4, .int .u8 r5, .int .u8 r6, .int .u8 r7]) (.agg #[.int .u8 r0, .int .u8 r1, .int .u8 r2, .int .u8 r3, .int .u8 r4, .int .u8 r5, .int .u8 r6, .int .u8 r7])).run Tryd.prog W = .ok true W := fun W => (dg_equal r0 r1 r2 r3 r4 r5 r6 r7 r0 r1 r2 r3 r4 r5 r6 r7 W).trans (by rw [eqL_self])
  have heq' : ∀ W, (Op.equalIn 10000 25 (.agg #[.int .u8 r0, .int .u8 r1, .int .u8 r2, .int .u8 r3, .int .u8 r4, .int .u8 r5, .int .u8 r6, .int .u8 r7]) (.agg #[.int .u8 r0, .int .u8 r1, .int .u8 r2, .int .u8 r3, .int .u8 r4, .int .u8 r5, .int .u8 r6, .int .u8 r7])).run Tryd.prog W = .ok true W := fun W => (rdg_equal r0 r1 r2 r3 r4 r5 r6 r7 r0 r1 r2 r3 r4 r5 r6 r7 W).trans (by rw [eqL_self])
  rw [hw6, hh]
  clear k6 hw6 hh HK5 HB5
  clear hS6
  go_wp2_with fail
  refine (told_any _).mono ?_
  rintro e w7 ⟨rfl, hb7⟩
  obtain ⟨p0, p1, p2, p3, p4, p5, p6, p7, q0, q1, q2, q3, q4, q5, q6, q7⟩ := cells_two HK6.out.1 HK6.out.2 hb7
  have HB7 := Lib.hid (below_then HB6.out hb7)
  clear hb7 HB6 HK6
  go_wp2_with fail
  refine (theight_any m _).mono ?_
  rintro e w8 ⟨rfl, rfl⟩
  go_wp2_with fail
  refine (rheight_any m _).mono ?_
  rintro e w9 ⟨rfl, rfl⟩
  go_wp2_with fail
  go_ret
  exact ⟨rfl, HB7.out⟩
theorem law_TreeRoots' (A : Option Addr) (n c : Nat) (vs : List Int) (w : World) (hs : Sl w w.heap.size 1 A n (vs.map (.int .u16))) (hv : ∀ z ∈ vs, (Lit.int .u16 z).wf = true) :
    Calls Tryd.prog 3 #[.slice A n c] w fun e w' => e = .returned (.bool true) ∧ Below w.heap.size w w' := law_TreeRoots w A n c vs (u16_wf hv) hs
end Go.Proofs.YtimcjldehememaaDoor
