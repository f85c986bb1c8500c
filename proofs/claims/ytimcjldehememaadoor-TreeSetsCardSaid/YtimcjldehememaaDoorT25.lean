/- TreePaths: the walk. -/
import Derived.Test.YtimcjldehememaaDoorT24
namespace Go.Proofs.YtimcjldehememaaDoor
open Go.RowKit

theorem pathL_small (ls : List (List Int)) (i : Int) : (pathL ls i).length ≤ 12 := by
  unfold pathL
  split
  · rename_i h; rw [pathI_len]; exact height_le h.1.2
  · exact Nat.zero_le _

set_option maxRecDepth 20000 in
set_option maxHeartbeats 1000000 in
theorem law_TreePaths (w : World) (A : Option Addr) (n c : Nat) (vs : List Int) (i : Int) (ho : U16 vs) (hs : Sl w w.heap.size 1 A n (vs.map (.int .u16))) :
    Calls Tryd.prog 4 #[.slice A n c, .int .i64 i] w fun e w' => e = .returned (.bool true) ∧ Below w.heap.size w w' := by
  have HS := Lib.hid hs; have HO := Lib.hid ho
  have hn := hs.le
  clear hs ho
  go_enter Tryd.func4, Tryd.ntmps4
  go_wp2_with fail
  refine (some_any _ A n c vs HO.out HS.out 70 (by decide)).mono ?_
  rintro e w1 ⟨⟨v, rfl, hown⟩, hb1⟩
  obtain ⟨B1, c1, rfl⟩ := own_form hown
  obtain ⟨m, hm, hm7⟩ : ∃ m, min 70 n = m ∧ m ≤ 70 := ⟨_, rfl, Nat.min_le_left _ _⟩
  rw [hm] at hown ⊢
  have HB1 := Lib.hid hb1
  have HDO := Lib.hid (someI_ok HO.out 70)
  have HSL := Lib.hid (Sl.of_own hown)
  clear hb1 hown hm
  go_wp2_with fail
  go_loopw [6, 7, 8, 9, 10, 11] (fun kv a7 a8 a9 a10 a11 wr => ∃ k : Nat, k ≤ 2 ∧ kv = .int .i64 k ∧ Hid (Below w1.heap.size w1 wr)) (fun kv _ _ _ _ _ _ => 2 - (intOf kv).toNat)
  case atStart => exact ⟨0, by omega, rfl, Below.refl _ _⟩
  case round =>
    obtain ⟨k, hk, rfl, HBr⟩ := hrel
    obtain rfl | rfl | rfl : k = 0 ∨ k = 1 ∨ k = 2 := by omega
    · skip
      go_wp2_with fail
      refine (treePath_any _ B1 m c1 i _ HDO.out (HSL.out.later HBr.out)).mono ?_
      rintro e w2 ⟨⟨v, rfl, hown⟩, hb2⟩
      obtain ⟨B2, c2, rfl⟩ := own_form hown
      have HSP := Lib.hid (Sl.of_own hown)
      have HB2 := Lib.hid (below_then HBr.out hb2)
      clear hown hb2
      go_wp2_with fail
      refine (plain_any _ B1 m c1 _ HDO.out (HSL.out.later HB2.out) (by omega)).mono ?_
      rintro e w3 ⟨⟨v, rfl, hown⟩, hb3⟩
      obtain ⟨B3, c3, rfl⟩ := own_form hown
      have HSQ := Lib.hid (Sl.of_own hown)
      have HB3 := Lib.hid (below_then HB2.out hb3)
      have HSP3 := Lib.hid (HSP.out.later hb3)
      clear hown hb3 HB2 HSP
      go_wp2_with fail
      refine (rPath_any _ B3 m c3 i _ HDO.out HSQ.out).mono ?_
      rintro e w4 ⟨⟨v, rfl, hown⟩, hb4⟩
      obtain ⟨B4, c4, rfl⟩ := own_form hown
      have HSR := Lib.hid (Sl.of_own hown)
      have HB4 := Lib.hid (below_then HB3.out hb4)
      have HSP4 := Lib.hid (HSP3.out.later hb4)
      have HPS := Lib.hid (pathL_small (someI vs 70) i)
      have HPO := Lib.hid (pathL_ok (someI vs 70) i)
      clear hown hb4 HB3 HSP3 HSQ
      go_wp2_with fail
      refine (plain_any _ B2 _ c2 _ HPO.out HSP4.out (Nat.le_trans HPS.out (by decide))).mono ?_
      rintro e w5 ⟨⟨v, rfl, hown⟩, hb5⟩
      obtain ⟨B5, c5, rfl⟩ := own_form hown
      have HSS := Lib.hid (Sl.of_own hown)
      have HB5 := Lib.hid (below_then HB4.out hb5)
      have HSR5 := Lib.hid (HSR.out.later hb5)
      clear hown hb5 HB4 HSP4 HSR
      go_wp2_with fail
      refine (rSame_any _ B5 B4 _ _ c5 c4 _ _ HPO.out HPO.out HSS.out HSR5.out).mono ?_
      rintro e w6 ⟨rfl, q6, rfl⟩
      rw [eqD_self]
      have HB6 := Lib.hid (below_then HB5.out (below_draws w5 _ q6))
      clear HB5 HSS HSR5 HPS HPO
      go_wp2_with fail
      go_roundw
      case rel => exact ⟨0 + 1, by omega, by go_num, HB6⟩
      case measure => simp [intOf]
    · by_cases hm0 : 0 < m
      · obtain ⟨j, hj, hjm⟩ := rem_at (IntKind.u64.wrap i) m (by rw [IntKind.wrap_u64]; omega) hm0
        have hm3 : ¬ (m : Int) = 0 := by omega
        have hm5 : IntKind.u64.wrap (m : Int) = m := by rw [IntKind.wrap_u64]; omega
        have hj5 : IntKind.u64.wrap (j : Int) = j := by rw [IntKind.wrap_u64]; omega
        have hj6 : IntKind.i64.wrap (j : Int) = j := by rw [IntKind.wrap_i64]; omega
        have hm6 : (0 : Int) < m := by omega
        go_wp2_with fail
        refine (treePath_any _ B1 m c1 j _ HDO.out (HSL.out.later HBr.out)).mono ?_
        rintro e w2 ⟨⟨v, rfl, hown⟩, hb2⟩
        obtain ⟨B2, c2, rfl⟩ := own_form hown
        have HSP := Lib.hid (Sl.of_own hown)
        have HB2 := Lib.hid (below_then HBr.out hb2)
        clear hown hb2
        go_wp2_with fail
        refine (plain_any _ B1 m c1 _ HDO.out (HSL.out.later HB2.out) (by omega)).mono ?_
        rintro e w3 ⟨⟨v, rfl, hown⟩, hb3⟩
        obtain ⟨B3, c3, rfl⟩ := own_form hown
        have HSQ := Lib.hid (Sl.of_own hown)
        have HB3 := Lib.hid (below_then HB2.out hb3)
        have HSP3 := Lib.hid (HSP.out.later hb3)
        clear hown hb3 HB2 HSP
        go_wp2_with fail
        refine (rPath_any _ B3 m c3 j _ HDO.out HSQ.out).mono ?_
        rintro e w4 ⟨⟨v, rfl, hown⟩, hb4⟩
        obtain ⟨B4, c4, rfl⟩ := own_form hown
        have HSR := Lib.hid (Sl.of_own hown)
        have HB4 := Lib.hid (below_then HB3.out hb4)
        have HSP4 := Lib.hid (HSP3.out.later hb4)
        have HPS := Lib.hid (pathL_small (someI vs 70) j)
        have HPO := Lib.hid (pathL_ok (someI vs 70) j)
        clear hown hb4 HB3 HSP3 HSQ
        go_wp2_with fail
        refine (plain_any _ B2 _ c2 _ HPO.out HSP4.out (Nat.le_trans HPS.out (by decide))).mono ?_
        rintro e w5 ⟨⟨v, rfl, hown⟩, hb5⟩
        obtain ⟨B5, c5, rfl⟩ := own_form hown
        have HSS := Lib.hid (Sl.of_own hown)
        have HB5 := Lib.hid (below_then HB4.out hb5)
        have HSR5 := Lib.hid (HSR.out.later hb5)
        clear hown hb5 HB4 HSP4 HSR
        go_wp2_with fail
        refine (rSame_any _ B5 B4 _ _ c5 c4 _ _ HPO.out HPO.out HSS.out HSR5.out).mono ?_
        rintro e w6 ⟨rfl, q6, rfl⟩
        rw [eqD_self]
        have HB6 := Lib.hid (below_then HB5.out (below_draws w5 _ q6))
        clear HB5 HSS HSR5 HPS HPO
        go_wp2_with fail
        go_roundw
        case rel => exact ⟨1 + 1, by omega, by go_num, HB6⟩
        case measure => simp [intOf]
      · obtain rfl : m = 0 := by omega
        go_wp2_with fail
        refine (treePath_any _ B1 0 c1 i _ HDO.out (HSL.out.later HBr.out)).mono ?_
        rintro e w2 ⟨⟨v, rfl, hown⟩, hb2⟩
        obtain ⟨B2, c2, rfl⟩ := own_form hown
        have HSP := Lib.hid (Sl.of_own hown)
        have HB2 := Lib.hid (below_then HBr.out hb2)
        clear hown hb2
        go_wp2_with fail
        refine (plain_any _ B1 0 c1 _ HDO.out (HSL.out.later HB2.out) (by omega)).mono ?_
        rintro e w3 ⟨⟨v, rfl, hown⟩, hb3⟩
        obtain ⟨B3, c3, rfl⟩ := own_form hown
        have HSQ := Lib.hid (Sl.of_own hown)
        have HB3 := Lib.hid (below_then HB2.out hb3)
        have HSP3 := Lib.hid (HSP.out.later hb3)
        clear hown hb3 HB2 HSP
        go_wp2_with fail
        refine (rPath_any _ B3 0 c3 i _ HDO.out HSQ.out).mono ?_
        rintro e w4 ⟨⟨v, rfl, hown⟩, hb4⟩
        obtain ⟨B4, c4, rfl⟩ := own_form hown
        have HSR := Lib.hid (Sl.of_own hown)
        have HB4 := Lib.hid (below_then HB3.out hb4)
        have HSP4 := Lib.hid (HSP3.out.later hb4)
        have HPS := Lib.hid (pathL_small (someI vs 70) i)
        have HPO := Lib.hid (pathL_ok (someI vs 70) i)
        clear hown hb4 HB3 HSP3 HSQ
        go_wp2_with fail
        refine (plain_any _ B2 _ c2 _ HPO.out HSP4.out (Nat.le_trans HPS.out (by decide))).mono ?_
        rintro e w5 ⟨⟨v, rfl, hown⟩, hb5⟩
        obtain ⟨B5, c5, rfl⟩ := own_form hown
        have HSS := Lib.hid (Sl.of_own hown)
        have HB5 := Lib.hid (below_then HB4.out hb5)
        have HSR5 := Lib.hid (HSR.out.later hb5)
        clear hown hb5 HB4 HSP4 HSR
        go_wp2_with fail
        refine (rSame_any _ B5 B4 _ _ c5 c4 _ _ HPO.out HPO.out HSS.out HSR5.out).mono ?_
        rintro e w6 ⟨rfl, q6, rfl⟩
        rw [eqD_self]
        have HB6 := Lib.hid (below_then HB5.out (below_draws w5 _ q6))
        clear HB5 HSS HSR5 HPS HPO
        go_wp2_with fail
        go_roundw
        case rel => exact ⟨1 + 1, by omega, by go_num, HB6⟩
        case measure => simp [intOf]
    · go_wp2_with fail
      refine (told_any _).mono ?_
      rintro e w2 ⟨rfl, hb2⟩
      have HB2 := Lib.hid (below_then HB1.out (below_then HBr.out hb2))
      go_wp2_with fail
      go_ret
      exact ⟨rfl, HB2.out⟩
theorem law_TreePaths' (A : Option Addr) (n c : Nat) (vs : List Int) (i : Int) (w : World) (hs : Sl w w.heap.size 1 A n (vs.map (.int .u16))) (hv : ∀ z ∈ vs, (Lit.int .u16 z).wf = true) (_ : (Lit.int .i64 i).wf = true) :
    Calls Tryd.prog 4 #[.slice A n c, .int .i64 i] w fun e w' => e = .returned (.bool true) ∧ Below w.heap.size w w' := law_TreePaths w A n c vs i (u16_wf hv) hs
end Go.Proofs.YtimcjldehememaaDoor
