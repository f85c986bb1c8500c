/- Trees: their paths. Trees: paths of leaves, leaves, sameness. -/
import Derived.Test.YtakfdlokgddaoaaDoorTE
/-! Trees: their paths. -/
namespace Go.Proofs.YtakfdlokgddaoaaDoor
open Go.RowKit

theorem xor_fin : ∀ a : Fin 65, ∀ b : Fin 64, bits .xor .i64 ((a.val * 64 + b.val : Nat) : Int) 1 = (sib (a.val * 64 + b.val) : Int) := by decide +kernel
theorem xor_one (k : Nat) (h : k ≤ 4096) : bits .xor .i64 (k : Int) 1 = (sib k : Int) := by
  have := xor_fin ⟨k / 64, by omega⟩ ⟨k % 64, by omega⟩
  simp only [show k / 64 * 64 + k % 64 = k by omega] at this
  exact this
theorem sib_lt {k p : Nat} (h : k < 2 * p) : sib k < 2 * p := by unfold sib; split <;> omega

theorem get8 {ls : List (List Int)} (ho : DsOk ls) {k : Nat} (hk : k < ls.length) : ∃ o0 o1 o2 o3 o4 o5 o6 o7 : Int, ls[k]? = some [o0, o1, o2, o3, o4, o5, o6, o7] := by
  obtain ⟨o0, o1, o2, o3, o4, o5, o6, o7, h⟩ := list8 (ls[k]'hk) (ho _ (List.getElem_mem hk)).len
  exact ⟨o0, o1, o2, o3, o4, o5, o6, o7, by rw [List.getElem?_eq_getElem hk, h]⟩

set_option maxRecDepth 20000 in
theorem tPath_any (w : World) (lo hi : Nat) (T : Tr) (ls : List (List Int)) (t : TreeOf w lo hi T ls) (i : Int) :
    Calls Tryd.prog 38 #[.pointer (some ⟨T.g, 0, none⟩), .int .i64 i] w fun e w' => (∃ v, e = .returned (.tuple #[v, .int .i64 (pathE ls.length i)]) ∧ w'.ownsRow w.heap.size 23 8 v (pathL ls i).length (cellsD (pathL ls i))) ∧ Below w.heap.size w w' := by
  obtain ⟨ns, t, hal⟩ := t
  have h12 := t.hm.2
  have hn4 := t.n12
  have hn1 := t.lc.1
  have HHA := Lib.hid (has_any w lo hi T _ _ ls ns t i)
  have HHT := Lib.hid (hgt_any w lo hi T _ _ ls ns t)
  have hlh := t.lh
  by_cases hin : 0 ≤ i ∧ i < ls.length
  · have HHB := Lib.hid (show hasB ls.length i = true by rw [hasB]; exact decide_eq_true hin)
    have HPE := Lib.hid (show pathE ls.length i = 0 by rw [pathE, if_pos ⟨hn1, hn4⟩, if_pos hin])
    obtain ⟨i0, rfl⟩ : ∃ i0 : Nat, i = i0 := ⟨i.toNat, by omega⟩
    have HPL := Lib.hid (show pathL ls i0 = pathI ls i0 (heightI ls.length) by rw [pathL, if_pos ⟨⟨hn1, hn4⟩, hin⟩, Int.toNat_natCast])
    rw [HHB.out] at HHA
    obtain ⟨h, hh⟩ : ∃ h, heightI ls.length = h := ⟨_, rfl⟩
    rw [hh] at t hal h12 HHT HPL hlh
    have hi0 : i0 < 2 ^ h := by omega
    have HT := Lib.hid t; have HAL := Lib.hid hal; have HI0 := Lib.hid hi0
    have hi4 : i0 ≤ 4096 := by omega
    obtain ⟨d0, hdi, hd0, hd1, hd2⟩ := info_parts Tryd.infoDg
    have hmk : ∀ W, (Instr.makeSlice 32 (.int .i64 0) (.int .i64 (h : Int))).run Tryd.prog W = .ok (.slice (some ⟨W.heap.size, 0, none⟩) 0 h) (W.alloc (.cells (madeCells zeroC (h * 8)) 23)) := fun W => by
      have := run_make (P := Tryd.prog) W 32 23 d0 (.agg (dgA zeroD)) Tryd.underlying32 hdi hd0 .i64 .i64 0 h (by omega) (by omega) (by rw [hd2]; omega) (by omega)
      rw [hd1, Int.toNat_natCast] at this
      exact this
    obtain ⟨w1, hw1⟩ : ∃ w1, w.alloc (.cells (madeCells zeroC (h * 8)) 23) = w1 := ⟨_, rfl⟩
    have hown : w1.ownsRow w.heap.size 23 8 (.slice (some ⟨w.heap.size, 0, none⟩) 0 h) 0 [] := hw1 ▸ World.ownsRow_made w _ h (Nat.le_refl _) (by unfold maxLen; omega) (size_madeCells _ _)
    have hb1 : Below w.heap.size w w1 := hw1 ▸ below_new w _
    have HW1 := Lib.hid hw1; have HOW := Lib.hid hown; have HB1 := Lib.hid hb1
    have HHT1 := Lib.hid (hgt_any w1 lo hi T _ _ ls ns (t.later hb1))
    rw [hh] at HHT1
    obtain ⟨g, hg⟩ : ∃ g, T.g = g := ⟨_, rfl⟩
    rw [hg] at HHA HHT HHT1
    have HTG := Lib.hid hg
    rw [hg]
    clear t hal hg hi0 hh hw1 hown hb1 hin hlh
    go_enter Tryd.func38, Tryd.ntmps38
    go_wp2_with (first
      | (go_at_call 64; refine HHA.out.mono ?_; rintro e w2 ⟨rfl, rfl⟩)
      | (go_at_call 57; (first | (refine HHT.out.mono ?_; rintro e w2 ⟨rfl, rfl⟩) | (rw [HW1.out]; refine HHT1.out.mono ?_; rintro e w2 ⟨rfl, rfl⟩))))
    go_loopw [1, 6, 21] (fun ks vo ms wr => ∃ (m k : Nat), m ≤ h ∧ ks = .int .i64 k ∧ ms = .int .i64 m ∧ k ≤ 4096 ∧ Hid (k = i0 / 2 ^ m) ∧ Hid (wr.ownsRow w.heap.size 23 8 vo m (cellsD (pathI ls i0 m))) ∧ Hid (Below w.heap.size w wr)) (fun _ _ ms _ => h - (intOf ms).toNat)
    case atStart => exact ⟨0, i0, by omega, rfl, rfl, hi4, by show _ = _; simp, HOW.out, HB1.out⟩
    case round =>
      obtain ⟨m, k, hm, rfl, rfl, hk, HK, HO, HB⟩ := hrel
      by_cases hlt : m < h
      · have hm1 : (m : Int) < h := by omega
        obtain ⟨q, hq⟩ : ∃ q, k / 2 = q := ⟨_, rfl⟩
        have hdv : (k : Int) / 2 = (q : Int) := by omega
        have hq4 : q ≤ 4096 := by omega
        have HQ : Hid (q = i0 / 2 ^ (m + 1)) := by
          show _ = _
          rw [← hq, HK.out, Nat.pow_succ, Nat.div_div_eq_div_mul]
        have hpow : 2 ^ (h - m) = 2 * 2 ^ (h - (m + 1)) := by rw [show h - m = (h - (m + 1)) + 1 by omega, Nat.pow_succ]; omega
        have hkb : k < 2 ^ (h - m) := by
          rw [HK.out, Nat.div_lt_iff_lt_mul (Nat.two_pow_pos m), ← Nat.pow_add, show h - m + m = h by omega]
          exact HI0.out
        have hsb : sib k < 2 ^ (h - m) := by rw [hpow] at hkb ⊢; exact sib_lt hkb
        have hxo := xor_one k hk
        obtain ⟨s, hs⟩ : ∃ s, sib k = s := ⟨_, rfl⟩
        have HSB : Hid (sib (i0 / 2 ^ m) = s) := by show _ = _; rw [← HK.out]; exact hs
        rw [hs] at hxo hsb
        have tw := HT.out.later (HB.out)
        have hmm : m < h + 1 := by omega
        have hcell := tw.ncell hmm
        have hnm := HAL.out m (by omega)
        have hx : (ns m)[s]? = some (nodeI ls m s) := by rw [hnm]; exact levelI_get _ _ _ _ hsb
        obtain ⟨o0, o1, o2, o3, o4, o5, o6, o7, ho⟩ := list8 (nodeI ls m s) (nodeI_ok _ _ _).len
        rw [ho] at hx
        have hr := sl_dg (tw.nsl hmm) (tw.nv m hmm).2.2 hx
        rw [Nat.zero_add] at hr
        obtain ⟨c0, c1, c2, c3, c4, c5, c6, c7⟩ := range8 hr
        obtain ⟨N, hN⟩ : ∃ N, 2 ^ (h - m) = N := ⟨_, rfl⟩
        rw [hN] at hcell hsb
        rw [HTG.out] at hcell
        have HND := Lib.hid ho
        have i1 : (0 : Int) ≤ (m : Int) := by omega
        have i2 : (m : Int) < 13 := by omega
        have i3 : (0 : Int) ≤ (s : Int) := by omega
        have i4 : (s : Int) < N := by omega
        have hsz := HB.out.size
        clear tw hnm hx hr hq hs hpow hkb hN hmk ho
        go_wp2_with (at_builtin; refine wpList_app _ rfl (.tmp 24) (.tmp 35) 32 rfl w.heap.size 23 d0 (.agg (dgA zeroD)) 8 8 Tryd.underlying32 hdi hd0 hd1 hd2 rfl (by decide) _ _ _ rfl (HO.out.alloc _) _ _ 1 1 [.int .u8 o0, .int .u8 o1, .int .u8 o2, .int .u8 o3, .int .u8 o4, .int .u8 o5, .int .u8 o6, .int .u8 o7] rfl (sl_new _ #[_, _, _, _, _, _, _, _] _ 8 1 rfl (by omega)) (by simp [Value.oneCell']) (by unfold maxLen; omega) (by omega) (by simp; omega) ?_; intro v1 w3 hown1 hg1 hat1)
        have hb3 := grown_below (HB.out.alloc HB.out.size (.cells #[.int .u8 o0, .int .u8 o1, .int .u8 o2, .int .u8 o3, .int .u8 o4, .int .u8 o5, .int .u8 o6, .int .u8 o7] 23)) (HO.out.alloc _) hg1 (Nat.le_refl _) (by simp; omega)
        have HO3 : Hid (w3.ownsRow w.heap.size 23 8 v1 (m + 1) (cellsD (pathI ls i0 (m + 1)))) := by
          show World.ownsRow _ _ _ _ _ _ _
          rw [pathI_snoc, cellsD_snoc, HSB.out, HND.out]
          exact hown1
        have HB3 := Lib.hid hb3
        clear hown1 hg1 hat1 hb3
        go_roundw
        case rel => exact ⟨m + 1, q, by omega, rfl, by go_num, hq4, HQ, HO3, HB3⟩
        case measure => simp [intOf]; omega
      · obtain rfl : m = h := by omega
        go_wp2_with fail
        go_ret2
        rw [HPE.out, HPL.out, pathI_len]
        exact ⟨⟨_, rfl, HO.out⟩, HB.out⟩
  · have HHB := Lib.hid (show hasB ls.length i = false by rw [hasB]; exact decide_eq_false hin)
    have HPE := Lib.hid (show pathE ls.length i = 9 by rw [pathE, if_pos ⟨hn1, hn4⟩, if_neg hin])
    have HPL := Lib.hid (show pathL ls i = [] by rw [pathL, if_neg (fun h => hin h.2)])
    rw [HHB.out] at HHA
    clear t hal
    go_enter Tryd.func38, Tryd.ntmps38
    go_wp2_with (go_at_call 64; refine HHA.out.mono ?_; rintro e w2 ⟨rfl, rfl⟩)
    go_ret2
    rw [HPE.out, HPL.out]
    exact ⟨⟨_, rfl, World.ownsRow_nil _ _ _ _⟩, Below.refl _ _⟩
end Go.Proofs.YtakfdlokgddaoaaDoor

/-! Trees: paths of leaves, leaves, sameness. -/
namespace Go.Proofs.YtakfdlokgddaoaaDoor
open Go.RowKit

theorem tPath_nil (w : World) (i : Int) :
    Calls Tryd.prog 38 #[.pointer none, .int .i64 i] w fun e w' => e = .returned (.tuple #[.slice none 0 0, .int .i64 1]) ∧ w = w' := by
  go_enter Tryd.func38, Tryd.ntmps38
  go_wp2_with fail
  go_ret2
  exact ⟨rfl, rfl⟩

def leafI (ls : List (List Int)) (i : Int) : List Int := if 0 ≤ i ∧ i < ls.length then ls.getD i.toNat zeroD else zeroD
theorem getD_ok {ls : List (List Int)} (ho : DsOk ls) (k : Nat) : DgOk (ls.getD k zeroD) := by
  rw [List.getD_eq_getElem?_getD]
  cases h : ls[k]? with
  | none => exact zeroD_ok
  | some d => exact ho d (List.mem_of_getElem? h)
theorem leafI_ok {ls : List (List Int)} (ho : DsOk ls) (i : Int) : DgOk (leafI ls i) := by unfold leafI; split <;> first | exact getD_ok ho _ | exact zeroD_ok
theorem quiet_more {P : Program} {f : FuncId} {args : Array Value} {w : World} {n : Nat} {v : Value}
    (h : Calls P f args (w.drewN n) fun e w' => e = .returned v ∧ ∃ q, w' = (w.drewN n).drewN q) : Calls P f args (w.drewN n) fun e w'' => e = .returned v ∧ ∃ m, w'' = w.drewN m :=
  h.mono fun _ _ ⟨he, q, hm⟩ => ⟨he, n + q, hm.trans (World.drewN_drewN _ _ _)⟩
end Go.Proofs.YtakfdlokgddaoaaDoor
