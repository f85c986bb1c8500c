/- Trees: clones; what is not there. -/
import Derived.Test.YtimcjldehememaaDoorT18
namespace Go.Proofs.YtimcjldehememaaDoor
open Go.RowKit

theorem tSet_not (w : World) (lo hi : Nat) (T : Tr) (ls : List (List Int)) (t : TreeOf w lo hi T ls) (i : Int) (hin : ¬ (0 ≤ i ∧ i < ls.length)) (leaf : List Int) (hd : DgOk leaf) :
    Calls Tryd.prog 25 #[.pointer (some ⟨T.g, 0, none⟩), .int .i64 i, .agg (dgA leaf)] w fun e w' => e = .returned (.int .i64 9) ∧ Below w.heap.size w w' := by
  obtain ⟨ns, t, hal⟩ := t
  obtain ⟨w1, hw1⟩ : ∃ w1, w.alloc (.cells (dgA leaf) 26) = w1 := ⟨_, rfl⟩
  have hb1 : Below w.heap.size w w1 := hw1 ▸ below_new w _
  have HHA := Lib.hid (has_any w1 lo hi T _ _ ls ns (t.later hb1) i)
  rw [show hasB ls.length i = false by rw [hasB]; exact decide_eq_false hin] at HHA
  have HB1 := Lib.hid hb1; have HW := Lib.hid hw1
  clear t hal hb1 hw1
  go_enter Tryd.func25, Tryd.ntmps25
  go_upto_region 1 with fail
  rw [HW.out]
  go_wp2_with (go_at_call 44; refine HHA.out.mono ?_; rintro e w2 ⟨rfl, rfl⟩)
  go_ret
  exact ⟨rfl, HB1.out⟩
theorem tSet_nil (w : World) (i : Int) (leaf : List Int) :
    Calls Tryd.prog 25 #[.pointer none, .int .i64 i, .agg (dgA leaf)] w fun e w' => e = .returned (.int .i64 1) ∧ Below w.heap.size w w' := by
  obtain ⟨w1, hw1⟩ : ∃ w1, w.alloc (.cells (dgA leaf) 26) = w1 := ⟨_, rfl⟩
  have hb1 : Below w.heap.size w w1 := hw1 ▸ below_new w _
  have HB1 := Lib.hid hb1; have HW := Lib.hid hw1
  clear hb1 hw1
  go_enter Tryd.func25, Tryd.ntmps25
  go_upto_region 1 with fail
  rw [HW.out]
  go_wp2_with fail
  go_ret
  exact ⟨rfl, HB1.out⟩
theorem tClone_nil (w : World) :
    Calls Tryd.prog 30 #[.pointer none] w fun e w' => e = .returned (.pointer none) ∧ w = w' := by
  go_enter Tryd.func30, Tryd.ntmps30
  go_wp2_with fail
  go_ret
  exact ⟨rfl, rfl⟩
theorem clone_nil_dg (w : World) (c : Nat) :
    Calls Tryd.prog 41 #[.slice none 0 c] w fun e w' => e = .returned (.slice none 0 0) ∧ w = w' := by
  have hnil : ∀ (w : World) (a : Option Addr) (n c n' c' : Nat), (binOp .eql 23 (.slice a n c) (.slice none n' c')).run Tryd.prog w = .ok (.bool a.isNone) w := fun w a n c n' c' => Lib.run_eql_slice_nil w _ _ a n c n' c' Tryd.underlying23
  go_enter Tryd.func41, Tryd.ntmps41
  go_wp2_with fail
  go_ret
  exact ⟨rfl, rfl⟩
theorem own_row {w : World} {base b n c : Nat} {ls : List (List Int)} (h : w.ownsRow base 26 8 (.slice (some ⟨b, 0, none⟩) n c) n (cellsD ls)) (hl : ls.length = n) : RowAt w b c ls := by
  obtain ⟨e, _⟩ | ⟨g, cap, ys, e, _, hb, _, _, hyl, hyt⟩ := own_bk h
  · cases e
  · injection e with e1 _ e3
    injection e1 with e1
    injection e1 with e1
    subst e1; subst e3; subst hl
    exact ⟨ys, hb, hyl, hyt⟩
theorem set_same {α : Type} (l : List α) (i : Nat) (v : α) (h : l[i]? = some v) : l.set i v = l := by
  refine List.ext_getElem? fun j => ?_
  rw [List.getElem?_set]
  by_cases hij : i = j
  · subst hij
    rw [if_pos rfl, h]
    have := (List.getElem?_eq_some_iff.1 h).1
    simp [this]
  · rw [if_neg hij]
theorem lv_size : (Tryd.prog.info? 79).map (·.size) = some 13 := by kernel_rfl
theorem sl_size : (Tryd.prog.info? 23).map (·.size) = some 1 := by kernel_rfl

set_option maxRecDepth 20000 in
set_option maxHeartbeats 1000000 in
theorem tClone_any (w : World) (lo hi : Nat) (T : Tr) (ls : List (List Int)) (t : TreeOf w lo hi T ls) :
    Calls Tryd.prog 30 #[.pointer (some ⟨T.g, 0, none⟩)] w fun e w' => ∃ (T' : Tr) (hi' : Nat), e = .returned (.pointer (some ⟨T'.g, 0, none⟩)) ∧ T'.g ≠ T.g ∧ TreeOf w' w.heap.size hi' T' ls ∧ Below w.heap.size w w' := by
  obtain ⟨ns, t, hal⟩ := t
  have hc0 := t.lcell
  have hn4 := t.n12
  have hsl := t.sl
  have hlok := t.lok
  have hlh := t.lh
  have h12 := t.hm.2
  have hgl := Bk.lt t.row
  have h1n := t.lc.1
  obtain ⟨h, hh⟩ : ∃ h, heightI ls.length = h := ⟨_, rfl⟩
  rw [hh] at t hal h12 hlh
  obtain ⟨n, hn⟩ : ∃ n, ls.length = n := ⟨_, rfl⟩
  rw [hn] at hc0 hn4 hsl hlh h1n
  obtain ⟨g, hg⟩ : ∃ g, T.g = g := ⟨_, rfl⟩
  rw [hg] at hc0 hgl
  have HT := Lib.hid t; have HAL := Lib.hid hal; have HSL := Lib.hid hsl; have HLOK := Lib.hid hlok; have HG := Lib.hid hg; have HN := Lib.hid hn; have HH := Lib.hid hh
  rw [hg]
  clear t hal hsl hlok hg hn hh
  go_enter Tryd.func30, Tryd.ntmps30
  go_wp2_with fail
  refine (clone_dg w _ n T.cl ls HLOK.out HSL.out (by omega)).mono ?_
  rintro e w2 ⟨⟨v, rfl, hown⟩, hb2⟩
  obtain ⟨rfl, h0, _⟩ | ⟨bl, cl, ys, rfl, hbg, hbk, hcl, hcm, hyl, hyt⟩ := own_bk hown
  · omega
  have HB2 := Lib.hid hb2; have HBK := Lib.hid hbk
  have HLV : Hid (cl ≤ 9223372036854775807 ∧ w.heap.size ≤ bl ∧ n ≤ cl ∧ ys.length = cl * 8 ∧ ys.take (n * 8) = cellsD ls) := ⟨hcm, hbg, hcl, hyl, hyt⟩
  clear hown hb2 hbk hcm hbg hcl hyl hyt hc0
  go_upto_region 4 with fail
  obtain ⟨w3, hw3⟩ : ∃ w3, w2.alloc (.cells #[.slice (some ⟨bl, 0, none⟩) n cl, .slice none 0 0, .slice none 0 0, .slice none 0 0, .slice none 0 0, .slice none 0 0, .slice none 0 0, .slice none 0 0, .slice none 0 0, .slice none 0 0, .slice none 0 0, .slice none 0 0, .slice none 0 0, .slice none 0 0] 81) = w3 := ⟨_, rfl⟩
  obtain ⟨gn, hgn⟩ : ∃ gn, w2.heap.size = gn := ⟨_, rfl⟩
  have hb3 : Below w.heap.size w w3 := hw3 ▸ HB2.out.trans ((below_new w2 _).mono HB2.out.size)
  have t0 : TreeAt w3 w.heap.size (gn + 1) ⟨gn, bl, cl, fun _ => 0, fun _ => 0⟩ h 0 ls (fun _ => []) := by
    have hL := HN.out
    have hbl : bl < w2.heap.size := Bk.lt HBK.out
    refine ⟨?_, HLOK.out, ⟨ys, hw3 ▸ Bk.alloc HBK.out _, HLV.out.2.2.2.1, by rw [hL]; exact HLV.out.2.2.2.2⟩, ⟨by rw [hL]; omega, by rw [hL]; exact HLV.out.2.2.1, HLV.out.1⟩, by rw [hL]; exact hlh, fun l hl => absurd hl (by omega), ⟨by omega, h12⟩, fun l hl => absurd hl (by omega), fun l _ hl => absurd hl (by omega), ⟨by rw [← hgn]; exact HB2.out.size, HLV.out.2.1, fun l hl => absurd hl (by omega)⟩, ⟨by show gn < _; omega, by show bl < _; omega, fun l hl => absurd hl (by omega)⟩, by rw [← hw3, ← hgn]; simp⟩
    rw [← hw3, hL]
    exact Bk.at_ _ _ _ hgn rfl
  have hgg : gn ≠ g := by have := HB2.out.size; omega
  have HT0 : Hid (∃ (hi' : Nat) (T' : Tr) (ns' : Nat → List (List Int)), TreeAt w3 w.heap.size hi' T' h 0 ls ns' ∧ T'.g = gn) := ⟨_, _, _, t0, rfl⟩
  have HB3 := Lib.hid hb3
  have hrange : w3.rangeAt g 1 ((List.range 13).map (nodeV T h (h + 1))) := by
    intro j v hv
    have hr := (HT.out.later hb3).row
    rw [HG.out] at hr
    rw [hr.cell, treeCells, Nat.add_comm 1 j, List.getElem?_cons_succ]
    exact hv
  obtain ⟨C, hC⟩ : ∃ C, (List.range 13).map (nodeV T h (h + 1)) = C := ⟨_, rfl⟩
  have hCl : C.length = 13 := by rw [← hC]; simp
  have hCg : ∀ l, l < 13 → C[l]? = some (nodeV T h (h + 1) l) := fun l hl => by rw [← hC, List.getElem?_map, List.getElem?_range hl]; rfl
  rw [hC] at hrange
  have HRANGE := Lib.hid hrange; have HCG := Lib.hid hCg
  have HIC : Hid ((Tryd.prog.info? 79).map (·.size) = some C.length) := by show _ = _; rw [hCl]; exact lv_size
  rw [hgn, hw3]
  clear t0 hw3 HB2 HBK HLV hgn hrange hCg hC
  go_wp2_with (refine wpList_load_mid rfl 79 _ rfl g 1 rfl C _ HRANGE.out Tryd.underlying79 rfl HIC.out ?_)
  go_loopw [19] (fun is wr => ∃ (l hi' : Nat) (T' : Tr) (ns' : Nat → List (List Int)), l ≤ 13 ∧ is = .int .i64 l ∧ Hid (TreeAt wr w.heap.size hi' T' h (min l (h + 1)) ls ns') ∧ Hid (∀ j, j < min l (h + 1) → ns' j = levelI ls h j) ∧ Hid (T'.g = gn) ∧ Hid (Below w.heap.size w wr)) (fun is _ => 13 - (intOf is).toNat)
  case atStart =>
    obtain ⟨hi', T', ns', t0, eg⟩ := HT0.out
    exact ⟨0, hi', T', ns', by omega, rfl, by rw [Nat.zero_min]; exact t0, fun j hj => absurd hj (by omega), eg, HB3.out⟩
  case round =>
    obtain ⟨l, hi', T', ns', hl, rfl, HTT, HNS, HTG, HB⟩ := hrel
    clear HT0
    by_cases hlt : l < 13
    · have hl1 : (l : Int) < 13 := by omega
      have hl0 : (0 : Int) ≤ l := by omega
      have hrow := HTT.out.row
      rw [HTG.out] at hrow
      have HROW := Lib.hid hrow
      have hwg : g < wr.heap.size := by have := HB.out.size; omega
      have hidx := fun W => run_index_row (P := Tryd.prog) 79 23 13 C.toArray .i64 l _ Tryd.underlying79 sl_size hlt (by rw [List.getElem?_toArray]; exact HCG.out l hlt) (fun w => by simp [isAgg, run_underlying Tryd.underlying23]) W
      by_cases hlh : l ≤ h
      · have hmin : min l (h + 1) = l := by omega
        have hnv : nodeV T h (h + 1) l = .slice (some ⟨T.bn l, 0, none⟩) (2 ^ (h - l)) (T.cn l) := by rw [nodeV, if_pos (by omega)]
        rw [hnv] at hidx
        have hpw := HT.out.pow l
        have hp1 : 1 ≤ 2 ^ (h - l) := Nat.one_le_two_pow
        have tw := HT.out.later HB.out
        have hsl := tw.nsl (l := l) (by omega)
        rw [HAL.out l hlh] at hsl
        have HSL2 := Lib.hid hsl
        rw [hmin] at HTT HNS HROW
        obtain ⟨N, hN⟩ : ∃ N, 2 ^ (h - l) = N := ⟨_, rfl⟩
        rw [hN] at hidx HSL2 hpw hp1
        have hNN := Lib.hid hN
        have hcell : wr.cell? ⟨gn, 1 + l, none⟩ = some (.slice none 0 0) := by
          rw [HROW.out.cell, treeCells_node _ _ _ _ _ hlt, nodeV, if_neg (by omega)]
        have HCELL := Lib.hid hcell
        clear hnv tw hsl hN hrow hcell
        go_wp2_with fail
        go_region_law (go_simp; go_at_call 41; refine (clone_dg _ _ N (T.cn l) (levelI ls h l) (levelI_ok _ _ _) (HSL2.out.drew) (by omega)).mono ?_; rintro e w5 ⟨⟨v5, rfl, hown5⟩, hb5⟩; obtain ⟨b5, cap5, rfl, hb5g, hb5l⟩ := hown5.form (by omega); have E5 : Hid (Below wr.heap.size wr w5) := ((below_draws wr _ 1).trans hb5); have HO5 : Hid (w5.ownsRow wr.heap.size 26 8 (.slice (some ⟨b5, 0, none⟩) N cap5) N (cellsD (levelI ls h l))) := hown5; clear hb5 hown5; have c5 := (E5.out.cell (p := ⟨gn, 1 + l, none⟩) (Bk.lt HROW.out)).trans HCELL.out; have f5 := Bk.frozen (HROW.out.later E5.out) (1 + l); have l5 := Bk.lt (HROW.out.later E5.out))
        have t5 := HTT.out.later E5.out
        have hgnb : gn < wr.heap.size := Bk.lt HROW.out
        have hdr : wr.drew.heap.size = wr.heap.size := rfl
        have hrow6 := Bk.set_ t5.row (1 + l) (.slice (some ⟨b5, 0, none⟩) N cap5)
        have hk6 : ∀ j, j < w5.heap.size → j ≠ gn → (w5.setCell ⟨gn, 1 + l, none⟩ (.slice (some ⟨b5, 0, none⟩) N cap5)).heap[j]? = w5.heap[j]? := fun j _ hne => Below.heap_setCell w5 ⟨gn, 1 + l, none⟩ _ j hne
        have hb6 := (own_row HO5.out (by rw [levelI_len]; exact hNN.out)).to (hk6 b5 hb5l (by omega))
        have hbl6 := (HB.out.trans (E5.out.mono HB.out.size)).setCell (p := ⟨gn, 1 + l, none⟩) (by rw [← HTG.out]; exact HTT.out.blo.1) (.slice (some ⟨b5, 0, none⟩) N cap5)
        rw [HTG.out] at hrow6
        have t6 := t5.grow (w' := w5.setCell ⟨gn, 1 + l, none⟩ (.slice (some ⟨b5, 0, none⟩) N cap5)) hlh b5 cap5 (by have := HTT.out.hih; omega) (levelI ls h l) (levelI_ok _ _ _) (levelI_len _ _ _) (by rw [hNN.out, HTG.out]; exact hrow6) hb6 (by rw [HTG.out]; exact hk6)
        have HT6 := Lib.hid t6; have HB6 := Lib.hid hbl6
        clear t5 t6 hrow6 hk6 hb6 hbl6 c5 f5 l5
        go_wp2_with fail
        go_roundw
        case rel => exact ⟨l + 1, b5 + 1, T'.more l b5 cap5, _, by omega, by go_num, by rw [show min (l + 1) (h + 1) = l + 1 by omega]; exact HT6.out, fun j hj => by
                      by_cases hjl : j = l
                      · rw [hjl, updN_at]
                      · rw [updN_far _ _ hjl]; exact HNS.out j (by omega), HTG.out, HB6.out⟩
        case measure => simp [intOf]; omega
      · have hmin : min l (h + 1) = h + 1 := by omega
        have hnv : nodeV T h (h + 1) l = .slice none 0 0 := by rw [nodeV, if_neg (by omega)]
        rw [hnv] at hidx
        rw [hmin] at HTT HNS HROW
        have hgc : (treeCells T' ls.length h (h + 1))[1 + l]? = some (.slice none 0 0) := by
          rw [treeCells_node _ _ _ _ _ hlt, nodeV, if_neg (by omega)]
        have hcell : wr.cell? ⟨gn, 1 + l, none⟩ = some (.slice none 0 0) := by rw [HROW.out.cell]; exact hgc
        have f5 := Bk.frozen HROW.out (1 + l)
        have l5 := Bk.lt HROW.out
        have HGC := Lib.hid hgc
        clear hnv hrow hgc
        go_wp2_with fail
        go_region_law (go_simp; go_at_call 41; refine (clone_nil_dg _ 0).mono ?_; rintro e w5 ⟨rfl, rfl⟩)
        have hrow6 : Bk (wr.setCell ⟨gn, 1 + l, none⟩ (.slice none 0 0)).drew gn 81 (treeCells T' ls.length h (h + 1)) := by
          have := (Bk.set_ HROW.out (1 + l) (.slice none 0 0)).drew
          rw [set_same _ _ _ HGC.out] at this; exact this
        have hk6 : ∀ b, w.heap.size ≤ b → b < hi' → ((wr.setCell ⟨gn, 1 + l, none⟩ (.slice none 0 0)).drew).heap[b]? = wr.heap[b]? := fun b _ _ => by
          by_cases hb : b = gn
          · subst hb; exact hrow6.trans HROW.out.symm
          · exact Below.heap_setCell wr ⟨gn, 1 + l, none⟩ _ b hb
        have hbl6 := (HB.out.setCell (p := ⟨gn, 1 + l, none⟩) (by rw [← HTG.out]; exact HTT.out.blo.1) (.slice none 0 0)).drew
        have t6 := HTT.out.keep (w' := (wr.setCell ⟨gn, 1 + l, none⟩ (.slice none 0 0)).drew) (by simp [World.setCell]) hk6
        have HT6 := Lib.hid t6; have HB6 := Lib.hid hbl6
        clear t6 hrow6 hk6 hbl6 f5 l5 hcell
        go_wp2_with fail
        go_roundw
        case rel => exact ⟨l + 1, hi', T', ns', by omega, by go_num, by rw [show min (l + 1) (h + 1) = h + 1 by omega]; exact HT6.out, fun j hj => HNS.out j (by omega), HTG.out, HB6.out⟩
        case measure => simp [intOf]; omega
    · obtain rfl : l = 13 := by omega
      go_wp2_with fail
      go_ret
      refine ⟨T', hi', by rw [HTG.out]; rfl, by rw [HTG.out]; exact hgg, ⟨ns', ?_, ?_⟩, HB.out⟩
      · have := HTT.out
        rw [Nat.min_eq_right (by omega)] at this
        rw [HH.out]; exact this
      · rw [HH.out]
        intro j hj
        exact HNS.out j (by rw [Nat.min_eq_right (by omega)]; omega)
end Go.Proofs.YtimcjldehememaaDoor
