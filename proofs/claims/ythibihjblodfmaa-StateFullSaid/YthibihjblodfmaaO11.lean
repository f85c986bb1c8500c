/- The document's reader: bytes. -/
import Derived.Test.YthibihjblodfmaaO10
namespace Go.Proofs.Ythibihjblodfmaa
open Go.RowKit

theorem cells3 {w : World} {g : Nat} {t : TypeId} {a b c : Value} (h : Bk w g t [a, b, c]) :
    w.cell? ⟨g, 0, none⟩ = some a ∧ w.cell? ⟨g, 1, none⟩ = some b ∧ w.cell? ⟨g, 2, none⟩ = some c := ⟨by rw [h.cell]; rfl, by rw [h.cell]; rfl, by rw [h.cell]; rfl⟩
theorem free3 {w : World} {g : Nat} {t : TypeId} {a b c : Value} (h : Bk w g t [a, b, c]) :
    w.frozen? ⟨g, 0, none⟩ = false ∧ w.frozen? ⟨g, 1, none⟩ = false ∧ w.frozen? ⟨g, 2, none⟩ = false := ⟨h.frozen 0, h.frozen 1, h.frozen 2⟩
/-- What a read of bytes hands back. -/
def RetRY (B : Nat) (p : Rd × List Int) (w : World) (e : Ending) (w' : World) : Prop :=
  ∃ v b, e = .returned (.tuple #[v, b]) ∧ RvAt w' B v p.1 ∧ w'.ownsRow w.heap.size 5 1 b p.2.length (p.2.map (.int .u8)) ∧ Below w.heap.size w w'
theorem RetRY.mk {w w' : World} {B : Nat} {p q : Rd × List Int} {v b : Value} (hq : p = q) (hv : RvAt w B v q.1) (hB : B ≤ w.heap.size) (ho : w'.ownsRow w.heap.size 5 1 b q.2.length (q.2.map (.int .u8))) (hb : Below w.heap.size w w') : RetRY B p w (.returned (.tuple #[v, b])) w' := by
  subst hq; exact ⟨v, b, rfl, hv.below (hb.mono hB), ho, hb⟩
set_option maxRecDepth 20000 in
theorem rSome_any (w : World) (B : Nat) (hB : B ≤ w.heap.size) (v : Value) (s : Rd) (h : RvAt w B v s) (most : Int) (hm0 : 0 ≤ most) (hm1 : most ≤ 1073741824) : Calls Try.prog 76 #[v, .int .i64 most] w (RetRY B (someR s most) w) := by
  have hv := h
  obtain ⟨A, n, c, bs, k, rfl, h2, h3, h4, h5, h6, h7⟩ := h
  have HV : Hid (∀ e, RvAt w B (.agg #[.slice A n c, .int .i64 (k : Int), .int .i64 e]) ⟨s.rest, e⟩) := fun e => ⟨A, n, c, bs, k, rfl, h2, h3, h4, h5, h6, h7⟩
  have HVV := Lib.hid hv
  have HO := Lib.hid hv.ok
  have hmx : IntKind.u64.wrap most = most := by rw [IntKind.wrap_u64]; omega
  have hm2 : decide (most < 0) = false := by simp; omega
  clear h2 h3 h7 hv
  by_cases he : s.err = 0
  · have he1 : (s.err != 0) = false := by simp [he]
    obtain ⟨M, hM⟩ : ∃ M : Int, 18446744073709551615 = M := ⟨_, rfl⟩
    have HC : Hid (Calls Try.prog 74 #[.agg #[.slice A n c, .int .i64 (k : Int), .int .i64 s.err], .int .u64 18446744073709551615] ((w.alloc (.cells #[.slice A n c, .int .i64 (k : Int), .int .i64 s.err] 136)).alloc (.cells #[.slice none 0 0, .int .i64 0, .int .i64 0] 136)) (RetRN B (numR s M) ((w.alloc (.cells #[.slice A n c, .int .i64 (k : Int), .int .i64 s.err] 136)).alloc (.cells #[.slice none 0 0, .int .i64 0, .int .i64 0] 136)))) := by
      rw [← hM]
      exact rRead_any _ B (by simp; omega) _ s (HVV.out.below (((below_new w _).alloc (by simp) _).mono hB)) _
    have HM := Lib.hid hM
    clear hM
    by_cases hlk : (lookB s.rest).2.2 = 0
    · have hlp := look_pos hlk HO.out
      have HNR : Hid (numR s M = (⟨s.rest.drop (lookB s.rest).2.1, 0⟩, (lookB s.rest).1)) := num_yes he hlk (by have := HM.out; omega)
      have hVM : (lookB s.rest).1 < 18446744073709551616 := hlp.2.1
      obtain ⟨V, hV⟩ : ∃ V : Nat, (lookB s.rest).1 = (V : Int) := ⟨(lookB s.rest).1.toNat, by omega⟩
      obtain ⟨S, hS⟩ : ∃ S, (lookB s.rest).2.1 = S := ⟨_, rfl⟩
      have HV1 := Lib.hid hV; have HS1 := Lib.hid hS; have HE0 := Lib.hid hlk; have HEE := Lib.hid he
      rw [hV, hS] at HNR
      rw [hS] at hlp
      obtain ⟨_, _, hs1, hs2⟩ := hlp
      have HO2 : Hid (ByOk (s.rest.drop S)) := HO.out.drop S
      obtain ⟨R, hR⟩ : ∃ R, s.rest.drop S = R := ⟨_, rfl⟩
      have hRl : R.length = s.rest.length - S := by rw [← hR, List.length_drop]
      rw [hR] at HNR HO2
      have HR := Lib.hid hR; have HRL := Lib.hid hRl
      by_cases hm : (V : Int) ≤ most
      · have hmm : decide (most < (V : Int)) = false := by simp; omega
        by_cases hle : V ≤ R.length
        · have HN := Lib.hid (some_yes he hlk (by rw [hV]; exact hm) (by rw [hV, hS, ← hRl]; omega))
          have hVR : V ≤ s.rest.length - S := by omega
          obtain ⟨i0, hi, hi0, hi1, hi2⟩ := info_parts Try.infoU8
          clear hV hS hlk he hR hRl hs2
          go_enter Try.func76, Try.ntmps76
          go_wp2_with fail
          refine HC.out.mono ?_
          rw [HNR.out]
          rintro e w1 ⟨v1, rfl, ⟨A2, n2, e2, bs2, k2, rfl, g2, g3, g4, g5, g6, g7⟩, hb1⟩
          have g7' : bs2.drop k2 = R := g7
          have hlen : n2 - k2 = R.length := by rw [← g7', List.length_drop, g2.length]
          have hv1 : IntKind.u64.wrap ((n2 : Int) - k2) = ((n2 - k2 : Nat) : Int) := by rw [IntKind.wrap_u64]; omega
          have hv2 : IntKind.i64.wrap ((n2 : Int) - k2) = ((n2 - k2 : Nat) : Int) := by rw [IntKind.wrap_i64]; omega
          have hv3 : (V : Int) ≤ ((n2 : Int) - k2) := by omega
          have hv4 : decide (((n2 : Int) - k2) < (V : Int)) = false := by simp; omega
          have hkV : k2 + V ≤ n2 := by omega
          have hv5 : IntKind.i64.wrap (V : Int) = V := IntWalk.i64_in _ (by omega)
          have hv6 : IntKind.i64.wrap ((k2 : Int) + V) = (k2 : Int) + V := IntWalk.i64_in _ (by omega)
          obtain ⟨A3, hA3⟩ : ∃ A3, (if e2 = k2 then A2 else Option.map (fun x => x.add k2) A2) = A3 := ⟨_, rfl⟩
          have hcut := run_cut2 23 A2 n2 e2 k2 (k2 + V) (by omega) hkV g5 Try.underlying23
          rw [hA3, show k2 + V - k2 = V by omega, show ((k2 + V : Nat) : Int) = (k2 : Int) + V by omega] at hcut
          have HSL : Hid (Sl w1 B 1 A3 V ((R.take V).map (.int .u8))) := by
            have := (sl_cut g2 g5 g4).front (m := V) (by omega)
            rw [hA3, g7'] at this; exact this
          have HG2 := Lib.hid g2; have HG3 := Lib.hid g3; have HG7 := Lib.hid g7'
          have HTL : Hid ((R.take V).length = V) := by show _ = _; rw [List.length_take]; omega
          have k1 := ((Bk.new w 136 #[.slice A n c, .int .i64 (k : Int), .int .i64 s.err]).alloc (.cells #[.slice none 0 0, .int .i64 0, .int .i64 0] 136)).later hb1
          have z1 := (Bk.at_ (g := w.heap.size + 1) (w.alloc (.cells #[.slice A n c, .int .i64 (k : Int), .int .i64 s.err] 136)) 136 #[.slice none 0 0, .int .i64 0, .int .i64 0] (by simp) rfl).later hb1
          obtain ⟨c0, c1, c2⟩ := cells3 k1
          obtain ⟨f0, f1, f2⟩ := free3 k1
          obtain ⟨y0, y1, y2⟩ := cells3 z1
          obtain ⟨yf0, yf1, yf2⟩ := free3 z1
          have l0 := k1.lt
          have l1 := z1.lt
          have HK1 := Lib.hid k1; have HZ1 := Lib.hid z1
          have HB1 := Lib.hid (below_then ((below_new w _).alloc (by simp) _) hb1)
          have hB1s := HB1.out.size
          clear hb1 k1 z1
          clear g2 g3 g7 g7' hlen hA3
          have HOW := Lib.hid (own_empty (w1.alloc (.cells #[.slice A2 n2 e2, .int .i64 (k2 : Int), .int .i64 0] 136)) 5 1 (w1.heap.size + 1) (by simp))
          have hb2 : Below w1.heap.size w1 ((w1.alloc (.cells #[.slice A2 n2 e2, .int .i64 (k2 : Int), .int .i64 0] 136)).alloc (.cells #[] 5)) := (below_new w1 _).alloc (by simp) _
          have HX2 := Lib.hid ((Bk.new w1 136 #[.slice A2 n2 e2, .int .i64 (k2 : Int), .int .i64 0]).alloc (.cells #[] 5))
          have HB2 := Lib.hid hb2
          have HBw : B ≤ w1.heap.size := by have := hB1s; omega
          have HS2 := Lib.hid (HSL.out.below (hb2.mono HBw))
          clear hb2
          go_wp2_with (at_builtin; refine wpList_app _ rfl (.tmp 44) (.tmp 54) 23 rfl (w1.heap.size + 1) 5 i0 (.int .u8 0) 1 1 Try.underlying23 hi hi0 hi1 hi2 rfl (by decide) _ 0 [] (by simp [Act.eval]) HOW.out _ _ V _ ((R.take V).map (.int .u8)) rfl HS2.out (ints_one _ _) (by unfold maxLen; omega) (by omega) (by simp) ?_; intro v3 w3 hown3 hg3 hat3; have hb3 := grown_below HB2.out HOW.out hg3 (Nat.le_succ _) (by simp; omega); have hbx := (Below.refl (w1.heap.size + 1) _).grown hg3 (by simp) (fun q hq => (HOW.out.lt q hq).1); obtain ⟨A4, c4, rfl⟩ := own_form hown3; have HOW3 := Lib.hid hown3; have HB3 := Lib.hid hb3; have kx := HX2.out.below hbx (Nat.lt_succ_self _); have HX3 := Lib.hid kx; obtain ⟨x0, x1, x2⟩ := cells3 kx; obtain ⟨xf0, xf1, xf2⟩ := free3 kx; have lx := kx.lt; obtain ⟨z0, z1, z2⟩ := cells3 (HZ1.out.later hb3); obtain ⟨zf0, zf1, zf2⟩ := free3 (HZ1.out.later hb3); have lz := (HZ1.out.later hb3).lt; clear hown3 hg3 hat3 hb3 kx hbx y0 y1 y2 yf0 yf1 yf2 c0 c1 c2 f0 f1 f2)
          have HOF := Lib.hid (ownsRow_setCell_below (ownsRow_setCell_below (ownsRow_setCell_below (ownsRow_setCell_below HOW3.out (a := ⟨w1.heap.size, 1, none⟩) (Nat.lt_succ_self _) (.int .i64 ((k2 : Int) + V))) (a := ⟨w.heap.size + 1, 0, none⟩) (show w.heap.size + 1 < w1.heap.size + 1 by omega) (.slice A2 n2 e2)) (a := ⟨w.heap.size + 1, 1, none⟩) (show w.heap.size + 1 < w1.heap.size + 1 by omega) (.int .i64 ((k2 : Int) + V))) (a := ⟨w.heap.size + 1, 2, none⟩) (show w.heap.size + 1 < w1.heap.size + 1 by omega) (.int .i64 0))
          have HBF := Lib.hid (((((below_then HB1.out HB3.out).setCell (p := ⟨w1.heap.size, 1, none⟩) (show w.heap.size ≤ w1.heap.size by omega) (.int .i64 ((k2 : Int) + V))).setCell (p := ⟨w.heap.size + 1, 0, none⟩) (Nat.le_succ _) (.slice A2 n2 e2)).setCell (p := ⟨w.heap.size + 1, 1, none⟩) (Nat.le_succ _) (.int .i64 ((k2 : Int) + V))).setCell (p := ⟨w.heap.size + 1, 2, none⟩) (Nat.le_succ _) (.int .i64 0))
          refine bodyPost_ret (v := .tuple #[.agg #[.slice A2 n2 e2, .int .i64 ((k2 : Int) + V), .int .i64 0], .slice A4 V c4]) (by simp [results, Try.results76, go_sem, z0, z1, z2]) rfl ?_
          refine ⟨_, _, rfl, ?_, ?_, HBF.out⟩
          · rw [HN.out]
            refine ⟨A2, n2, e2, bs2, k2 + V, ?_, ?_, HG3.out, hkV, g5, g6, ?_⟩
            · exact congrArg (fun z : Int => Value.agg #[.slice A2 n2 e2, .int .i64 z, .int .i64 0]) (by omega)
            · exact HG2.out.below ((((((HB3.out.mono HBw).setCell (p := ⟨w1.heap.size, 1, none⟩) HBw (.int .i64 ((k2 : Int) + V))).setCell (p := ⟨w.heap.size + 1, 0, none⟩) (Nat.le_succ_of_le hB) (.slice A2 n2 e2)).setCell (p := ⟨w.heap.size + 1, 1, none⟩) (Nat.le_succ_of_le hB) (.int .i64 ((k2 : Int) + V))).setCell (p := ⟨w.heap.size + 1, 2, none⟩) (Nat.le_succ_of_le hB) (.int .i64 0)))
            · rw [HS1.out, HV1.out, HR.out, Int.toNat_natCast, ← HG7.out, List.drop_drop]
          · rw [HN.out]
            simp only [HS1.out, HV1.out, HR.out, Int.toNat_natCast]
            rw [HTL.out]
            have := HOF.out
            simp only [Nat.zero_add, List.nil_append] at this
            exact own_base this (by omega)
        · have HN := Lib.hid (some_short he hlk (by rw [hV]; exact hm) (by rw [hV, hS, ← hRl]; omega))
          clear hV hS hlk he hR hRl hs2
          go_enter Try.func76, Try.ntmps76
          go_wp2_with fail
          refine HC.out.mono ?_
          rw [HNR.out]
          rintro e w1 ⟨v1, rfl, ⟨A2, n2, e2, bs2, k2, rfl, g2, g3, g4, g5, g6, g7⟩, hb1⟩
          have g7' : bs2.drop k2 = R := g7
          have hlen : n2 - k2 = R.length := by rw [← g7', List.length_drop, g2.length]
          have hv1 : IntKind.u64.wrap ((n2 : Int) - k2) = ((n2 - k2 : Nat) : Int) := by rw [IntKind.wrap_u64]; omega
          have hv2 : IntKind.i64.wrap ((n2 : Int) - k2) = ((n2 - k2 : Nat) : Int) := by rw [IntKind.wrap_i64]; omega
          have hv3 : ((n2 : Int) - k2) < V := by omega
          have hv4 : decide (((n2 : Int) - k2) < (V : Int)) = true := by simp; omega
          have k1 := ((Bk.new w 136 #[.slice A n c, .int .i64 (k : Int), .int .i64 s.err]).alloc (.cells #[.slice none 0 0, .int .i64 0, .int .i64 0] 136)).later hb1
          have z1 := (Bk.at_ (g := w.heap.size + 1) (w.alloc (.cells #[.slice A n c, .int .i64 (k : Int), .int .i64 s.err] 136)) 136 #[.slice none 0 0, .int .i64 0, .int .i64 0] (by simp) rfl).later hb1
          obtain ⟨c0, c1, c2⟩ := cells3 k1
          obtain ⟨f0, f1, f2⟩ := free3 k1
          obtain ⟨y0, y1, y2⟩ := cells3 z1
          obtain ⟨yf0, yf1, yf2⟩ := free3 z1
          have l0 := k1.lt
          have l1 := z1.lt
          have HK1 := Lib.hid k1; have HZ1 := Lib.hid z1
          have HB1 := Lib.hid (below_then ((below_new w _).alloc (by simp) _) hb1)
          have hB1s := HB1.out.size
          clear hb1 k1 z1
          clear g2 g7 g7' hlen
          go_wp2_with fail
          refine (rFail_any _ A n c k s.err 4).mono ?_
          rintro e w9 ⟨rfl, hb9⟩
          have k9 := (HK1.out.alloc (.cells #[.slice A2 n2 e2, .int .i64 (k2 : Int), .int .i64 0] 136)).later hb9
          have z9 := (HZ1.out.alloc (.cells #[.slice A2 n2 e2, .int .i64 (k2 : Int), .int .i64 0] 136)).later hb9
          obtain ⟨p0, p1, p2⟩ := cells3 z9
          obtain ⟨q0, q1, q2⟩ := free3 z9
          have l9 := z9.lt
          have HB9 := Lib.hid (below_then (below_then HB1.out (below_new w1 (.cells #[.slice A2 n2 e2, .int .i64 (k2 : Int), .int .i64 0] 136))) hb9)
          clear hb9 k9 z9 c0 c1 c2 f0 f1 f2 y0 y1 y2 yf0 yf1 yf2
          go_wp2_with fail
          refine bodyPost_ret (v := .tuple #[.agg #[.slice A n c, .int .i64 (k : Int), .int .i64 4], .slice none 0 0]) (by simp [results, Try.results76, go_sem, p0, p1, p2]) rfl ?_
          exact RetRY.mk HN.out (HV.out 4) hB (World.ownsRow_nil _ _ _ _) (((HB9.out.setCell (Nat.le_succ _) _).setCell (Nat.le_succ _) _).setCell (Nat.le_succ _) _)
      · have HN := Lib.hid (some_range (most := most) he hlk (by rw [hV]; omega))
        have hmm : decide (most < (V : Int)) = true := by simp; omega
        have hmm2 : most < (V : Int) := by omega
        clear hV hS hlk he hR hRl
        go_enter Try.func76, Try.ntmps76
        go_wp2_with fail
        refine HC.out.mono ?_
        rw [HNR.out]
        rintro e w1 ⟨v1, rfl, ⟨A2, n2, e2, bs2, k2, rfl, g2⟩, hb1⟩
        have k1 := ((Bk.new w 136 #[.slice A n c, .int .i64 (k : Int), .int .i64 s.err]).alloc (.cells #[.slice none 0 0, .int .i64 0, .int .i64 0] 136)).later hb1
        have z1 := (Bk.at_ (g := w.heap.size + 1) (w.alloc (.cells #[.slice A n c, .int .i64 (k : Int), .int .i64 s.err] 136)) 136 #[.slice none 0 0, .int .i64 0, .int .i64 0] (by simp) rfl).later hb1
        obtain ⟨c0, c1, c2⟩ := cells3 k1
        obtain ⟨f0, f1, f2⟩ := free3 k1
        obtain ⟨y0, y1, y2⟩ := cells3 z1
        obtain ⟨yf0, yf1, yf2⟩ := free3 z1
        have l0 := k1.lt
        have l1 := z1.lt
        have HK1 := Lib.hid k1; have HZ1 := Lib.hid z1
        have HB1 := Lib.hid (below_then ((below_new w _).alloc (by simp) _) hb1)
        have hB1s := HB1.out.size
        clear hb1 k1 z1
        clear g2
        go_wp2_with fail
        refine (rFail_any _ A n c k s.err 2).mono ?_
        rintro e w9 ⟨rfl, hb9⟩
        have k9 := (HK1.out.alloc (.cells #[.slice A2 n2 e2, .int .i64 (k2 : Int), .int .i64 0] 136)).later hb9
        have z9 := (HZ1.out.alloc (.cells #[.slice A2 n2 e2, .int .i64 (k2 : Int), .int .i64 0] 136)).later hb9
        obtain ⟨p0, p1, p2⟩ := cells3 z9
        obtain ⟨q0, q1, q2⟩ := free3 z9
        have l9 := z9.lt
        have HB9 := Lib.hid (below_then (below_then HB1.out (below_new w1 (.cells #[.slice A2 n2 e2, .int .i64 (k2 : Int), .int .i64 0] 136))) hb9)
        clear hb9 k9 z9 c0 c1 c2 f0 f1 f2 y0 y1 y2 yf0 yf1 yf2
        go_wp2_with fail
        refine bodyPost_ret (v := .tuple #[.agg #[.slice A n c, .int .i64 (k : Int), .int .i64 2], .slice none 0 0]) (by simp [results, Try.results76, go_sem, p0, p1, p2]) rfl ?_
        exact RetRY.mk HN.out (HV.out 2) hB (World.ownsRow_nil _ _ _ _) (((HB9.out.setCell (Nat.le_succ _) _).setCell (Nat.le_succ _) _).setCell (Nat.le_succ _) _)
    · have HN := Lib.hid (some_look he hlk most)
      obtain ⟨E, hE⟩ : ∃ E, (lookB s.rest).2.2 = E := ⟨_, rfl⟩
      have HNR : Hid (numR s M = (⟨s.rest, E⟩, 0)) := by show _ = _; rw [← hE]; exact num_look he hlk M
      rw [hE] at hlk HN
      have hlk2 : (E != 0) = true := by simp [hlk]
      clear hE he
      go_enter Try.func76, Try.ntmps76
      go_wp2_with fail
      refine HC.out.mono ?_
      rw [HNR.out]
      rintro e w1 ⟨v1, rfl, ⟨A2, n2, e2, bs2, k2, rfl, g2⟩, hb1⟩
      have k1 := ((Bk.new w 136 #[.slice A n c, .int .i64 (k : Int), .int .i64 s.err]).alloc (.cells #[.slice none 0 0, .int .i64 0, .int .i64 0] 136)).later hb1
      have z1 := (Bk.at_ (g := w.heap.size + 1) (w.alloc (.cells #[.slice A n c, .int .i64 (k : Int), .int .i64 s.err] 136)) 136 #[.slice none 0 0, .int .i64 0, .int .i64 0] (by simp) rfl).later hb1
      obtain ⟨c0, c1, c2⟩ := cells3 k1
      obtain ⟨f0, f1, f2⟩ := free3 k1
      obtain ⟨y0, y1, y2⟩ := cells3 z1
      obtain ⟨yf0, yf1, yf2⟩ := free3 z1
      have l0 := k1.lt
      have l1 := z1.lt
      have HK1 := Lib.hid k1; have HZ1 := Lib.hid z1
      have HB1 := Lib.hid (below_then ((below_new w _).alloc (by simp) _) hb1)
      have hB1s := HB1.out.size
      clear hb1 k1 z1
      clear g2
      go_wp2_with fail
      refine (rFail_any _ A n c k s.err E).mono ?_
      rintro e w9 ⟨rfl, hb9⟩
      have k9 := (HK1.out.alloc (.cells #[.slice A2 n2 e2, .int .i64 (k2 : Int), .int .i64 E] 136)).later hb9
      have z9 := (HZ1.out.alloc (.cells #[.slice A2 n2 e2, .int .i64 (k2 : Int), .int .i64 E] 136)).later hb9
      obtain ⟨p0, p1, p2⟩ := cells3 z9
      obtain ⟨q0, q1, q2⟩ := free3 z9
      have l9 := z9.lt
      have HB9 := Lib.hid (below_then (below_then HB1.out (below_new w1 (.cells #[.slice A2 n2 e2, .int .i64 (k2 : Int), .int .i64 E] 136))) hb9)
      clear hb9 k9 z9 c0 c1 c2 f0 f1 f2 y0 y1 y2 yf0 yf1 yf2
      go_wp2_with fail
      refine bodyPost_ret (v := .tuple #[.agg #[.slice A n c, .int .i64 (k : Int), .int .i64 E], .slice none 0 0]) (by simp [results, Try.results76, go_sem, p0, p1, p2]) rfl ?_
      exact RetRY.mk HN.out (HV.out E) hB (World.ownsRow_nil _ _ _ _) (((HB9.out.setCell (Nat.le_succ _) _).setCell (Nat.le_succ _) _).setCell (Nat.le_succ _) _)
  · have he1 : (s.err != 0) = true := by simp [he]
    have HNB := Lib.hid (some_bad he most)
    go_enter Try.func76, Try.ntmps76
    go_wp2_with fail
    exact bodyPost_ret (v := .tuple #[.agg #[.slice A n c, .int .i64 (k : Int), .int .i64 s.err], .slice none 0 0]) (by simp [results, Try.results76, go_sem]) rfl (RetRY.mk HNB.out HVV.out hB (World.ownsRow_nil _ _ _ _) ((below_new w _).alloc (by simp) _))
end Go.Proofs.Ythibihjblodfmaa
