/- PunishHonest: the walk. -/
import Derived.Test.YthibihjblodfmaaUM
import Derived.Test.YthibihjblodfmaaUH
namespace Go.Proofs.Ythibihjblodfmaa
open Go.RowKit Go.Maps


theorem bs_tf (w : World) : (Instr.buildSlice 77 2 #[(0, .bool false), (1, .bool true)]).run Try.prog w = .ok (.slice (some ⟨w.heap.size, 0, none⟩) 2 2) (w.alloc (.cells ([.bool false, .bool true] : List Value).toArray 4)) := by kernel_rfl
theorem thk_cell' {w1 w w' : World} {cs : List Value} {T : Tg} {g : Nat} (h : ThK w1 w cs T) (hb : Bk w' g 35 cs) : w'.cell? ⟨g, 0, none⟩ = some (.int .i64 T.k) := by
  obtain ⟨⟨A1, A2, A3, N1, N2, N3, C1, C2, C3, rfl, h2⟩, _, _, _, a, b, c, d⟩ := h
  exact (th_mem a b c hb).c0
set_option maxRecDepth 20000 in
set_option maxHeartbeats 8000000 in
theorem phonest_any (w : World) (A : Option Addr) (N C : Nat) (xs : List (List Value × DeT)) (h : Des w A N xs) (hN : N ≤ 9223372036854775807) (hon : Int) :
    Calls Try.prog 6 #[.slice A N C, .int .i64 hon] w fun e w' => e = .returned (.bool true) ∧ Below w.heap.size w w' := by
  have HD := Lib.hid h
  clear h
  go_enter Try.func6, Try.ntmps6
  go_upto_region 1 with fail
  go_wp2_with fail
  refine (pknown_any w).mono ?_
  rintro e w2 ⟨rfl, hbn⟩
  have HBB2 := Lib.hid hbn
  clear hbn
  go_wp2_with fail
  refine (fewD_any w2 A N C xs (HD.out.later HBB2.out) hN).mono ?_
  rintro e w3 ⟨rfl, hbn⟩
  have HBB3 := Lib.hid (below_then HBB2.out hbn)
  clear hbn
  obtain ⟨b0, hb0⟩ : ∃ b, fewB xs = b := ⟨_, rfl⟩
  rw [hb0]
  have HFE := Lib.hid hb0
  clear hb0
  cases b0
  · go_wp2_with fail
    refine (pknown_any w3).mono ?_
    rintro e w4 ⟨rfl, hbn⟩
    have HBB4 := Lib.hid (below_then HBB3.out hbn)
    clear hbn
    go_wp2_with fail
    go_ret
    exact ⟨rfl, HBB4.out⟩
  · have HFL : Hid ((∀ x ∈ xs, x.2.bs.length ≤ 60) ∧ xs.length ≤ 20) := by
      have h1 := HFE.out
      unfold fewB at h1
      rw [Bool.and_eq_true] at h1
      exact ⟨of_decide_eq_true h1.1, of_decide_eq_true h1.2⟩
    go_wp2_with fail
    refine (newBook_any w3).mono ?_
    rintro e w4 ⟨⟨g, rfl, hbk⟩, hbn⟩
    obtain ⟨lo, hlo⟩ : ∃ lo, w3.heap.size = lo := ⟨_, rfl⟩
    rw [hlo] at hbk
    have HFI4 : Hid (FH w w4 lo g (.slice none 0 0) (.slice none 0 0) [] [] []) := ⟨⟨World.ownsRow_nil _ _ _ _, fun y hy => by simp at hy, hbk, below_then HBB3.out hbn, hlo ▸ hbn.size, hlo ▸ HBB3.out.size⟩, World.ownsRow_nil _ _ _ _, fun y hy => by simp at hy, fun q hq => by simp [Value.ownBlock] at hq⟩
    clear hbk hbn hlo
    go_wp2_with fail
    have HLN := Lib.hid HD.out.length
    have HN20 : Hid (N ≤ 20) := by show N ≤ 20; have h2 := HFL.out.2; rw [HLN.out] at h2; exact h2
    go_loopw [6, 7, 9, 10, 12, 13, 14, 15, 16, 17, 18, 37] (fun a6 a7 _ _ _ _ _ _ _ _ _ kv wr => ∃ k : Nat, k ≤ N ∧ kv = .int .i64 k ∧ ∃ (v6 v7 : Value), v6 = a6 ∧ v7 = a7 ∧ ∃ (ys zs : List (List Value × Tg)) (es : List Ent), Hid (FH w wr lo g v6 v7 ys zs es) ∧ Hid (ys.length = k ∧ zs.length ≤ k ∧ es.length ≤ k ∧ (⟨ys.map (·.2), zs.map (·.2), es⟩ : HSt) = signH hon ((xs.take k).map (·.2)))) (fun _ _ _ _ _ _ _ _ _ _ _ kv _ => N - (intOf kv).toNat)
    case atStart => exact ⟨0, Nat.zero_le _, rfl, _, _, rfl, rfl, [], [], [], HFI4, rfl, Nat.le_refl _, Nat.le_refl _, by simp [signH]⟩
    case round =>
      clear HFI4
      obtain ⟨k, hk, rfl, v6, v7, h6, h7, ys, zs, es, HFI, HSS⟩ := hrel
      subst h6
      subst h7
      have HEL : Hid (es.length < 65536) := by show es.length < 65536; have := HSS.out.2.2.1; have := HN20.out; omega
      by_cases hlt : k < N
      · have hki : (k : Int) < N := by omega
        have hk0 : (0 : Int) ≤ k := by omega
        obtain ⟨x, hx⟩ : ∃ x, xs[k]? = some x := ⟨xs[k]'(by rw [HLN.out]; omega), List.getElem?_eq_getElem _⟩
        obtain ⟨A', N', C', hx1, hx2, hx3⟩ := HD.out.de x (List.mem_of_getElem? hx)
        have HDO := Lib.hid (hx3 (HFL.out.1 x (List.mem_of_getElem? hx)))
        obtain ⟨b, o, rfl, hr⟩ := HD.out.at_ HFI.out.fi.hb hx
        rw [hx1] at hr
        have HR := Lib.hid hr
        have HNX : Hid (signH hon ((xs.take (k + 1)).map (·.2)) = stepH hon ⟨ys.map (·.2), zs.map (·.2), es⟩ x.2) := by
          show _ = _
          rw [List.take_add_one, hx]
          simp only [Option.toList_some, List.map_append, List.map_cons, List.map_nil]
          rw [signH_add, ← HSS.out.2.2.2]
        clear hr hx hx1 hx2 hx3
        go_wp2_with (first
          | (with_reducible refine wpList_load_mid rfl 70 _ rfl b (o + k * 7) rfl (deC x.2 (.slice A' N' C')) _ HR.out Try.underlying70 rfl (de_size' x.2 A' N' C') ?_)
          | (with_reducible refine stop_store 70 _ _ rfl ?_))
        refine StopD.go ?_
        obtain ⟨q, hq⟩ : ∃ q, wr.heap.size = q := ⟨_, rfl⟩
        obtain ⟨w5, hw5⟩ : ∃ w5, wr.alloc (.cells #[.int .i64 0, .int .i64 0, .int .i64 0, .slice none 0 0, .bool false, .int .u8 0, .bool false] 70) = w5 := ⟨_, rfl⟩
        have hbn : Below wr.heap.size wr w5 := hw5 ▸ below_new wr _
        have kb : Bk w5 q 70 ([] ++ ([.int .i64 0, .int .i64 0, .int .i64 0, .slice none 0 0, .bool false, .int .u8 0, .bool false] ++ [])) := by rw [← hw5]; exact Bk.at_ wr _ _ hq rfl
        rw [hq, hw5]
        refine wpList_store_part rfl 70 _ _ rfl q 0 (.agg (deC x.2 (.slice A' N' C')).toArray) (deC x.2 (.slice A' N' C')) rfl rfl rfl 70 [] _ [] kb rfl rfl (de_size' _ _ _ _) (deC_one _ _ _ _) ?_
        intro w6 hp
        have hbn : Below wr.heap.size wr w6 := hbn.grown hp.only hbn.size (fun q' hq' => by injection hq' with hq'; omega)
        have HFI6 := Lib.hid (HFI.out.later hbn)
        have HQ6 : Hid (Bk w6 q 70 (deC x.2 (.slice A' N' C'))) := by show Bk _ _ _ _; have := hp.bk; simpa using this
        have hc0 := (de_mem HQ6.out).c0
        clear hp hbn kb hq hw5 HFI HR
        go_wp2_with fail
        clear hc0
        refine (key_any w6 x.2.seat).mono ?_
        rintro e w7 ⟨rfl, hbn⟩
        have HFI7 := Lib.hid (HFI6.out.later hbn); have HQ7 := Lib.hid (HQ6.out.later hbn)
        clear hbn HFI6 HQ6
        go_wp2_with fail
        refine (key_any w7 hon).mono ?_
        rintro e w8 ⟨rfl, hbn⟩
        have HFI8 := Lib.hid (HFI7.out.later hbn); have HQ8 := Lib.hid (HQ7.out.later hbn)
        clear hbn HFI7 HQ7
        have hkr := dg_eq_run _ _ (keyD_ok x.2.seat) (keyD_ok hon)
        obtain ⟨b1, hb1⟩ : ∃ b, eqL (keyD x.2.seat) (keyD hon) = b := ⟨_, rfl⟩
        rw [hb1] at hkr
        have HKE := Lib.hid hb1
        clear hb1
        cases b1
        · go_wp2_with (with_reducible refine wpList_load_bk rfl 70 _ rfl q rfl (deC x.2 (.slice A' N' C')) 70 HQ8.out _ Try.underlying70 rfl (de_size' x.2 A' N' C') ?_)
          clear hkr
          refine (dsign_any w w8 lo g es HFI8.out.fi.bk HEL.out HFI8.out.fi.lh HFI8.out.fi.hb HFI8.out.fi.wl x.2 A' N' C' HDO.out).mono ?_
          rintro e w7 ⟨⟨cs, rfl, hth⟩, hbk, hb, hk7⟩
          have HFI7 := Lib.hid (HFI8.out.sign hk7 hb hbk); have HTH7 := Lib.hid hth
          clear hth hbk hb hk7 HFI8 HQ8
          go_wp2_with (with_reducible refine stop_bs 68 _ _ rfl ?_)
          refine StopD.go ?_
          refine wpList_bsliceG rfl 68 1 _ rfl #[(0, .agg cs.toArray)] ?_ 35 cs (fun w => bs_th HTH7.out w) ?_
          · simp [Act.eval, Act.put]
          intro q8 w8 hq8 hb8 hbn
          have HFI8 := Lib.hid (HFI7.out.later hbn); have HTH8 := Lib.hid (HTH7.out.later hbn); have HB8 := Lib.hid hb8
          clear hq8 hb8 hbn HFI7 HTH7
          go_wp2_with (at_builtin; refine stop_here ?_)
          refine StopD.go ?_
          obtain ⟨i0, z0', hi, hi0, hi1, hi2, hi3⟩ := th_parts
          have hn1 := HSS.out.1; have hn2 := HN20.out
          refine wpList_app _ rfl (.tmp 47) (.tmp 51) 68 rfl lo 35 i0 z0' 30 120 Try.underlying68 hi hi0 hi1 hi2 hi3 (by decide) _ _ _ rfl HFI8.out.fi.row _ _ _ _ _ rfl (Sl.of_own (HB8.out.own (base := 0) (size := 30) (cap := 1) (n := 1) (Nat.zero_le _) (Nat.le_refl _) (by omega) (by rw [HTH8.out.len]) (by rw [List.take_of_length_le (by rw [HTH8.out.len]; exact Nat.le_refl _)]))) HTH8.out.one (by unfold maxLen; omega) (by omega) HFI8.out.fi.lh ?_
          intro v9 w9 hown hg hat
          have HFI9 := Lib.hid (HFI8.out.appV (y := (cs, deT x.2 es)) HTH8.out hown hg hat)
          clear hown hg hat hi hi0 hi1 hi2 hi3 hn1 hn2
          go_wp2_with fail
          case roundEnd =>
            refine ⟨⟨k + 1, hlt, by simp, _, _, rfl, rfl, _, _, _, HFI9, ?_⟩, by simp [intOf]; omega⟩
            refine ⟨by simp [HSS.out.1], Nat.le_succ_of_le HSS.out.2.1, Nat.le_trans (bookS_le _ _) (Nat.succ_le_succ HSS.out.2.2.1), ?_⟩
            rw [HNX.out, stepH, if_neg (by simpa [eqL] using HKE.out)]
            simp
        · go_upto_region 13 with fail
          clear hkr
          obtain ⟨ca, hca⟩ : ∃ c, deC x.2 (.slice A' N' C') = c := ⟨_, rfl⟩
          have HDM : Hid (∀ w' g', Bk w' g' 70 ca → DeM w' g' x.2 (.slice A' N' C')) := fun w' g' h' => by rw [← hca] at h'; exact de_mem h'
          rw [hca] at HQ8
          obtain ⟨z0, hz0⟩ : ∃ z, w8.heap.size = z := ⟨_, rfl⟩
          have HSN8 : Hid (SN w w8 lo g v6 v7 ys zs es q ca z0) := by show SN _ _ _ _ _ _ _ _ _ _ _ _; rw [← hz0]; exact HFI8.out.sn HQ8.out
          obtain ⟨D, hD⟩ : ∃ D, x.2 = D := ⟨_, rfl⟩
          rw [hD] at HDM HDO HNX HKE
          clear hz0 hca HFI8 HQ8 hD
          obtain ⟨z, hz⟩ : ∃ z, q = z := ⟨_, rfl⟩
          subst hz
          go_cut [10] (fun p wx => ∃ (gt : Nat) (pre : List Value), p = .pointer (some ⟨gt, 0, none⟩) ∧ Hid (NX w wx lo g v6 v7 ys zs es gt (pre ++ [Value.slice none 0 0]) (toT { deR D with ss := [] })) ∧ Hid (PreT w pre (deR D)))
          case first =>
            as_aux_lemma =>
            refine wp_region_held_drew (S := fun w' => Bk w' q 70 ca) (by kernel_rfl) (Bk.drew HSN8.out.d) (fun hHeld => ?_)
            have hbd : Below w8.heap.size w8 w8.drew := below_draws w8 w8.heap.size 1
            obtain ⟨ws, hws⟩ : ∃ ws, w8.drew = ws := ⟨_, rfl⟩
            rw [hws] at hbd hHeld ⊢
            have HSN := Lib.hid (HSN8.out.later hbd)
            have HDE := HDO
            clear hws hbd HSN8
            have hpm : IntKind.u8.wrap (D.pl.tmod 2) = D.pl % 2 := by have h0 := HDE.out.p0; have h1 := HDE.out.p1; rw [wrap_u8', Int.tmod_eq_emod_of_nonneg (by omega)]; omega
            have hpn : D.pl.tmod 2 = D.pl % 2 := by have h0 := HDE.out.p0; rw [Int.tmod_eq_emod_of_nonneg (by omega)]
            refine wpAnyH_take (i := 0) (v := ?_) rfl (by kernel_rfl) (by kernel_rfl) (by kernel_rfl) (fun _ _ _ h => h) (Or.inl ⟨by rfl, ?_⟩) (by assumption) ?_
            rotate_left
            · intro w hSw
              (try dsimp only at hSw)
              go_simp
              try with_reducible rfl
            try simp only [Act.put, List.setIfInBounds_toArray, List.set_cons_zero, List.set_cons_succ, List.getElem_toArray, List.getElem_cons_zero, List.getElem_cons_succ]
            refine wpAnyH_take (i := 5) (v := ?_) rfl (by kernel_rfl) (by kernel_rfl) (by kernel_rfl) (fun _ _ _ h => h) (Or.inl ⟨by rfl, ?_⟩) (by assumption) ?_
            rotate_left
            · intro w hSw
              (try dsimp only at hSw)
              go_simp
              try with_reducible rfl
            try simp only [Act.put, List.setIfInBounds_toArray, List.set_cons_zero, List.set_cons_succ, List.getElem_toArray, List.getElem_cons_zero, List.getElem_cons_succ]
            refine wpAnyH_take (i := 8) (v := ?_) rfl (by kernel_rfl) (by kernel_rfl) (by kernel_rfl) (fun _ _ _ h => h) (Or.inl ⟨by rfl, ?_⟩) (by assumption) ?_
            rotate_left
            · intro w hSw
              (try dsimp only at hSw)
              go_simp
              try with_reducible rfl
            try simp only [Act.put, List.setIfInBounds_toArray, List.set_cons_zero, List.set_cons_succ, List.getElem_toArray, List.getElem_cons_zero, List.getElem_cons_succ]
            refine wpAnyH_take (i := 10) (v := ?_) rfl (by kernel_rfl) (by kernel_rfl) (by kernel_rfl) (fun _ _ _ h => h) (Or.inl ⟨by rfl, ?_⟩) (by assumption) ?_
            rotate_left
            · intro w hSw
              (try dsimp only at hSw)
              go_simp
              try with_reducible rfl
            try simp only [Act.put, List.setIfInBounds_toArray, List.set_cons_zero, List.set_cons_succ, List.getElem_toArray, List.getElem_cons_zero, List.getElem_cons_succ]
            refine wpAnyH_take (i := 14) (v := ?_) rfl (by kernel_rfl) (by kernel_rfl) (by kernel_rfl) (fun _ _ _ h => h) (Or.inl ⟨by rfl, ?_⟩) (by assumption) ?_
            rotate_left
            · intro w hSw
              (try dsimp only at hSw)
              go_simp
              try with_reducible rfl
            try simp only [Act.put, List.setIfInBounds_toArray, List.set_cons_zero, List.set_cons_succ, List.getElem_toArray, List.getElem_cons_zero, List.getElem_cons_succ]
            refine wpAnyH_take (i := 1) (v := ?_) rfl (by kernel_rfl) (by kernel_rfl) (by kernel_rfl) (fun _ _ _ h => h) (Or.inl ⟨by rfl, ?_⟩) (by assumption) ?_
            rotate_left
            · intro w hSw
              have hcell := (HDM.out w q hSw).c1
              clear hSw
              go_simp
              try with_reducible rfl
            try simp only [Act.put, List.setIfInBounds_toArray, List.set_cons_zero, List.set_cons_succ, List.getElem_toArray, List.getElem_cons_zero, List.getElem_cons_succ]
            refine wpAnyH_take (i := 6) (v := ?_) rfl (by kernel_rfl) (by kernel_rfl) (by kernel_rfl) (fun _ _ _ h => h) (Or.inl ⟨by rfl, ?_⟩) (by assumption) ?_
            rotate_left
            · intro w hSw
              have hcell := (HDM.out w q hSw).c4
              clear hSw
              go_simp
              try with_reducible rfl
            try simp only [Act.put, List.setIfInBounds_toArray, List.set_cons_zero, List.set_cons_succ, List.getElem_toArray, List.getElem_cons_zero, List.getElem_cons_succ]
            refine wpAnyH_take (i := 9) (v := ?_) rfl (by kernel_rfl) (by kernel_rfl) (by kernel_rfl) (fun _ _ _ h => h) (Or.inl ⟨by rfl, ?_⟩) (by assumption) ?_
            rotate_left
            · intro w hSw
              have hcell := (HDM.out w q hSw).c2
              clear hSw
              go_simp
              try with_reducible rfl
            try simp only [Act.put, List.setIfInBounds_toArray, List.set_cons_zero, List.set_cons_succ, List.getElem_toArray, List.getElem_cons_zero, List.getElem_cons_succ]
            refine wpAnyH_take (i := 11) (v := ?_) rfl (by kernel_rfl) (by kernel_rfl) (by kernel_rfl) (fun _ _ _ h => h) (Or.inl ⟨by rfl, ?_⟩) (by assumption) ?_
            rotate_left
            · intro w hSw
              have hcell := (HDM.out w q hSw).c5
              clear hSw
              go_simp
              try with_reducible rfl
            try simp only [Act.put, List.setIfInBounds_toArray, List.set_cons_zero, List.set_cons_succ, List.getElem_toArray, List.getElem_cons_zero, List.getElem_cons_succ]
            refine wpAnyH_take (i := 15) (v := ?_) rfl (by kernel_rfl) (by kernel_rfl) (by kernel_rfl) (fun _ _ _ h => h) (Or.inl ⟨by rfl, ?_⟩) (by assumption) ?_
            rotate_left
            · intro w hSw
              have hcell := (HDM.out w q hSw).c3
              clear hSw
              go_simp
              try with_reducible rfl
            try simp only [Act.put, List.setIfInBounds_toArray, List.set_cons_zero, List.set_cons_succ, List.getElem_toArray, List.getElem_cons_zero, List.getElem_cons_succ]
            refine wpAnyH_take (i := 2) (v := ?_) rfl (by kernel_rfl) (by kernel_rfl) (by kernel_rfl) (fun _ _ _ h => h) (Or.inl ⟨by rfl, ?_⟩) (by assumption) ?_
            rotate_left
            · intro w hSw
              (try dsimp only at hSw)
              go_simp
              try with_reducible rfl
            try simp only [Act.put, List.setIfInBounds_toArray, List.set_cons_zero, List.set_cons_succ, List.getElem_toArray, List.getElem_cons_zero, List.getElem_cons_succ]
            refine wpAnyH_take (i := 12) (v := ?_) rfl (by kernel_rfl) (by kernel_rfl) (by kernel_rfl) (fun _ _ _ h => h) (Or.inl ⟨by rfl, ?_⟩) (by assumption) ?_
            rotate_left
            · intro w hSw
              (try dsimp only at hSw)
              go_simp
              try with_reducible rfl
            try simp only [Act.put, List.setIfInBounds_toArray, List.set_cons_zero, List.set_cons_succ, List.getElem_toArray, List.getElem_cons_zero, List.getElem_cons_succ]
            refine wpAnyH_take (i := 3) (v := ?_) rfl (by kernel_rfl) (by kernel_rfl) (by kernel_rfl) (fun _ _ _ h => h) (Or.inl ⟨by rfl, ?_⟩) (by assumption) ?_
            rotate_left
            · intro w hSw
              (try dsimp only at hSw)
              go_simp
              try with_reducible rfl
            try simp only [Act.put, List.setIfInBounds_toArray, List.set_cons_zero, List.set_cons_succ, List.getElem_toArray, List.getElem_cons_zero, List.getElem_cons_succ]
            refine wpAnyH_take (i := 4) (v := ?_) rfl (by kernel_rfl) (by kernel_rfl) (by kernel_rfl) (fun _ _ _ h => h) (Or.inl ⟨by rfl, ?_⟩) (by assumption) ?_
            rotate_left
            · intro w hSw
              have hcell := kind_run D.kind
              clear hSw
              go_simp
              try with_reducible rfl
            try simp only [Act.put, List.setIfInBounds_toArray, List.set_cons_zero, List.set_cons_succ, List.getElem_toArray, List.getElem_cons_zero, List.getElem_cons_succ]
            clear hpm hpn
            refine wpAnyH_take (i := 13) (v := .agg (List.toArray (dl (plD D.pl)))) rfl (by kernel_rfl) (by kernel_rfl) (by kernel_rfl) (fun _ _ _ h => h) (yieldsIf_build (by rfl) _ _ rfl #[(0, .int .u8 (D.pl % 2))] (by simp [Act.eval]) _ (build_d8 (D.pl % 2))) (by assumption) ?_
            try simp only [Act.put, List.setIfInBounds_toArray, List.set_cons_zero, List.set_cons_succ, List.getElem_toArray, List.getElem_cons_zero, List.getElem_cons_succ]
            refine wpAnyH_ready (rs := [7, 18]) (by kernel_rfl) (by simp) ?_
            refine AllReadyH.cons rfl (fun K hK => ?_) ?_
            ·
              go_simp
              go_at_call 39
              refine (table_any ws D.tb).mono ?_
              rintro e wst ⟨rfl, hbn⟩
              have HSNt := Lib.hid (HSN.out.later hbn)
              clear hbn
              refine hK.out _ _ HSNt.out.d (fun hHeld => ?_)
              clear hK K
              try simp only [Act.put, List.setIfInBounds_toArray, List.set_cons_zero, List.set_cons_succ, List.getElem_toArray, List.getElem_cons_zero, List.getElem_cons_succ]
              refine wpAnyH_take (i := 16) (v := .agg (List.toArray (rtC (D.kind % 2) D.n (tabD D.tb) (plD D.pl) (.slice A' N' C') (.slice none 0 0) false))) rfl (by kernel_rfl) (by kernel_rfl) (by kernel_rfl) (fun _ _ _ h => h) (yieldsIf_build (by rfl) _ _ rfl #[(0, .int .i64 (D.kind % 2)), (1, .agg (dl (tabD D.tb)).toArray), (2, .int .i64 D.n), (3, .agg (dl (plD D.pl)).toArray), (4, .slice A' N' C')] (by simp [Act.eval]) _ (build_rt5 (D.kind % 2) D.n (tabD D.tb) (plD D.pl) (tabD_ok _) (plD_ok _) A' N' C')) (by assumption) ?_
              try simp only [Act.put, List.setIfInBounds_toArray, List.set_cons_zero, List.set_cons_succ, List.getElem_toArray, List.getElem_cons_zero, List.getElem_cons_succ]
              refine wpAnyH_ready (rs := [17, 18]) (by kernel_rfl) (by simp) ?_
              refine AllReadyH.cons rfl (fun K hK => ?_) ?_
              ·
                go_simp
                go_at_call 17
                refine (ofP HDE.out C').mono ?_
                rintro e wsto ⟨⟨pre, rfl, hpre⟩, hbn⟩
                have HPR := Lib.hid hpre
                clear hpre
                have HSNto := Lib.hid (HSNt.out.later hbn)
                clear hbn
                refine hK.out _ _ HSNto.out.d (fun hHeld => ?_)
                clear hK K
                try simp only [Act.put, List.setIfInBounds_toArray, List.set_cons_zero, List.set_cons_succ, List.getElem_toArray, List.getElem_cons_zero, List.getElem_cons_succ]
                refine wpAnyH_ready (rs := [18]) (by kernel_rfl) (by simp) ?_
                refine AllReadyH.cons rfl (fun K hK => ?_) ?_
                ·
                  go_simp
                  obtain ⟨gt, hgt⟩ : ∃ g, wsto.heap.size = g := ⟨_, rfl⟩
                  obtain ⟨wstoa, hwstoa⟩ : ∃ w', wsto.alloc (.cells #[.int .i64 0, .int .u8 0, .int .u8 0, .int .u8 0, .int .u8 0, .int .u8 0, .int .u8 0, .int .u8 0, .int .u8 0, .int .i64 0, .slice none 0 0, .int .u8 0, .int .u8 0, .int .u8 0, .int .u8 0, .int .u8 0, .int .u8 0, .int .u8 0, .int .u8 0, .int .i64 0, .int .u8 0, .int .u8 0, .int .u8 0, .int .u8 0, .int .u8 0, .int .u8 0, .int .u8 0, .int .u8 0, .slice none 0 0, .slice none 0 0] 35) = w' := ⟨_, rfl⟩
                  have hbn : Below wsto.heap.size wsto wstoa := hwstoa ▸ below_new wsto _
                  have HGtoa : Hid (Bk wstoa gt 35 zTh) := by show Bk _ _ _ _; rw [← hwstoa]; exact Bk.at_ wsto _ _ hgt rfl
                  have HLT : Hid (z0 ≤ gt) := by show _ ≤ _; rw [← hgt]; exact HSNto.out.sz
                  rw [hgt, hwstoa]
                  clear hgt hwstoa
                  have HSNtoa := Lib.hid (HSNto.out.later hbn)
                  clear hbn
                  refine hK.out _ _ HSNtoa.out.d (fun hHeld => ?_)
                  clear hK K
                  try simp only [Act.put, List.setIfInBounds_toArray, List.set_cons_zero, List.set_cons_succ, List.getElem_toArray, List.getElem_cons_zero, List.getElem_cons_succ]
                  refine wpAnyH_ready (rs := [19]) (by kernel_rfl) (by simp) ?_
                  refine AllReadyH.cons rfl (fun K hK => ?_) AllReadyH.nil
                  rw [if_pos (by rfl)]
                  refine wp_store_part _ _ _ rfl gt 0 _ ((pre ++ [Value.slice none 0 0])) rfl rfl rfl _ ([]) (zTh) ([]) (by simpa using HGtoa.out) rfl (by rw [(HPR.out.nil w).len]; rfl) ((HPR.out.nil w).info) (HPR.out.nil w).one ?_
                  intro wy hp
                  refine hK.out _ _ (HSNtoa.out.put hp HGtoa.out HLT.out).d (fun hHeld => ?_)
                  clear hK K
                  try simp only [Act.put, List.setIfInBounds_toArray, List.set_cons_zero, List.set_cons_succ, List.getElem_toArray, List.getElem_cons_zero, List.getElem_cons_succ]
                  refine wpAnyH_done (by kernel_rfl) ?_ _
                  have KS := Lib.hid ((HSNtoa.out.put hp HGtoa.out HLT.out).nx (by have := hp.bk; simpa using this) HLT.out (HPR.out.nil wy))
                  clear hp hHeld
                  go_wp2_with fail
                  go_meet
                  exact ⟨gt, pre, rfl, KS, HPR⟩
                exact AllReadyH.nil
              refine AllReadyH.cons rfl (fun K hK => ?_) ?_
              ·
                go_simp
                obtain ⟨gt, hgt⟩ : ∃ g, wst.heap.size = g := ⟨_, rfl⟩
                obtain ⟨wsta, hwsta⟩ : ∃ w', wst.alloc (.cells #[.int .i64 0, .int .u8 0, .int .u8 0, .int .u8 0, .int .u8 0, .int .u8 0, .int .u8 0, .int .u8 0, .int .u8 0, .int .i64 0, .slice none 0 0, .int .u8 0, .int .u8 0, .int .u8 0, .int .u8 0, .int .u8 0, .int .u8 0, .int .u8 0, .int .u8 0, .int .i64 0, .int .u8 0, .int .u8 0, .int .u8 0, .int .u8 0, .int .u8 0, .int .u8 0, .int .u8 0, .int .u8 0, .slice none 0 0, .slice none 0 0] 35) = w' := ⟨_, rfl⟩
                have hbn : Below wst.heap.size wst wsta := hwsta ▸ below_new wst _
                have HGta : Hid (Bk wsta gt 35 zTh) := by show Bk _ _ _ _; rw [← hwsta]; exact Bk.at_ wst _ _ hgt rfl
                have HLT : Hid (z0 ≤ gt) := by show _ ≤ _; rw [← hgt]; exact HSNt.out.sz
                rw [hgt, hwsta]
                clear hgt hwsta
                have HSNta := Lib.hid (HSNt.out.later hbn)
                clear hbn
                refine hK.out _ _ HSNta.out.d (fun hHeld => ?_)
                clear hK K
                try simp only [Act.put, List.setIfInBounds_toArray, List.set_cons_zero, List.set_cons_succ, List.getElem_toArray, List.getElem_cons_zero, List.getElem_cons_succ]
                refine wpAnyH_ready (rs := [17]) (by kernel_rfl) (by simp) ?_
                refine AllReadyH.cons rfl (fun K hK => ?_) ?_
                ·
                  go_simp
                  go_at_call 17
                  refine (ofP HDE.out C').mono ?_
                  rintro e wstao ⟨⟨pre, rfl, hpre⟩, hbn⟩
                  have HPR := Lib.hid hpre
                  clear hpre
                  have HSNtao := Lib.hid (HSNta.out.later hbn)
                  have HGtao := Lib.hid (HGta.out.later hbn)
                  clear hbn
                  refine hK.out _ _ HSNtao.out.d (fun hHeld => ?_)
                  clear hK K
                  try simp only [Act.put, List.setIfInBounds_toArray, List.set_cons_zero, List.set_cons_succ, List.getElem_toArray, List.getElem_cons_zero, List.getElem_cons_succ]
                  refine wpAnyH_ready (rs := [19]) (by kernel_rfl) (by simp) ?_
                  refine AllReadyH.cons rfl (fun K hK => ?_) AllReadyH.nil
                  rw [if_pos (by rfl)]
                  refine wp_store_part _ _ _ rfl gt 0 _ ((pre ++ [Value.slice none 0 0])) rfl rfl rfl _ ([]) (zTh) ([]) (by simpa using HGtao.out) rfl (by rw [(HPR.out.nil w).len]; rfl) ((HPR.out.nil w).info) (HPR.out.nil w).one ?_
                  intro wy hp
                  refine hK.out _ _ (HSNtao.out.put hp HGtao.out HLT.out).d (fun hHeld => ?_)
                  clear hK K
                  try simp only [Act.put, List.setIfInBounds_toArray, List.set_cons_zero, List.set_cons_succ, List.getElem_toArray, List.getElem_cons_zero, List.getElem_cons_succ]
                  refine wpAnyH_done (by kernel_rfl) ?_ _
                  have KS := Lib.hid ((HSNtao.out.put hp HGtao.out HLT.out).nx (by have := hp.bk; simpa using this) HLT.out (HPR.out.nil wy))
                  clear hp hHeld
                  go_wp2_with fail
                  go_meet
                  exact ⟨gt, pre, rfl, KS, HPR⟩
                exact AllReadyH.nil
              exact AllReadyH.nil
            refine AllReadyH.cons rfl (fun K hK => ?_) ?_
            ·
              go_simp
              obtain ⟨gt, hgt⟩ : ∃ g, ws.heap.size = g := ⟨_, rfl⟩
              obtain ⟨wsa, hwsa⟩ : ∃ w', ws.alloc (.cells #[.int .i64 0, .int .u8 0, .int .u8 0, .int .u8 0, .int .u8 0, .int .u8 0, .int .u8 0, .int .u8 0, .int .u8 0, .int .i64 0, .slice none 0 0, .int .u8 0, .int .u8 0, .int .u8 0, .int .u8 0, .int .u8 0, .int .u8 0, .int .u8 0, .int .u8 0, .int .i64 0, .int .u8 0, .int .u8 0, .int .u8 0, .int .u8 0, .int .u8 0, .int .u8 0, .int .u8 0, .int .u8 0, .slice none 0 0, .slice none 0 0] 35) = w' := ⟨_, rfl⟩
              have hbn : Below ws.heap.size ws wsa := hwsa ▸ below_new ws _
              have HGa : Hid (Bk wsa gt 35 zTh) := by show Bk _ _ _ _; rw [← hwsa]; exact Bk.at_ ws _ _ hgt rfl
              have HLT : Hid (z0 ≤ gt) := by show _ ≤ _; rw [← hgt]; exact HSN.out.sz
              rw [hgt, hwsa]
              clear hgt hwsa
              have HSNa := Lib.hid (HSN.out.later hbn)
              clear hbn
              refine hK.out _ _ HSNa.out.d (fun hHeld => ?_)
              clear hK K
              try simp only [Act.put, List.setIfInBounds_toArray, List.set_cons_zero, List.set_cons_succ, List.getElem_toArray, List.getElem_cons_zero, List.getElem_cons_succ]
              refine wpAnyH_ready (rs := [7]) (by kernel_rfl) (by simp) ?_
              refine AllReadyH.cons rfl (fun K hK => ?_) ?_
              ·
                go_simp
                go_at_call 39
                refine (table_any wsa D.tb).mono ?_
                rintro e wsat ⟨rfl, hbn⟩
                have HSNat := Lib.hid (HSNa.out.later hbn)
                have HGat := Lib.hid (HGa.out.later hbn)
                clear hbn
                refine hK.out _ _ HSNat.out.d (fun hHeld => ?_)
                clear hK K
                try simp only [Act.put, List.setIfInBounds_toArray, List.set_cons_zero, List.set_cons_succ, List.getElem_toArray, List.getElem_cons_zero, List.getElem_cons_succ]
                refine wpAnyH_take (i := 16) (v := .agg (List.toArray (rtC (D.kind % 2) D.n (tabD D.tb) (plD D.pl) (.slice A' N' C') (.slice none 0 0) false))) rfl (by kernel_rfl) (by kernel_rfl) (by kernel_rfl) (fun _ _ _ h => h) (yieldsIf_build (by rfl) _ _ rfl #[(0, .int .i64 (D.kind % 2)), (1, .agg (dl (tabD D.tb)).toArray), (2, .int .i64 D.n), (3, .agg (dl (plD D.pl)).toArray), (4, .slice A' N' C')] (by simp [Act.eval]) _ (build_rt5 (D.kind % 2) D.n (tabD D.tb) (plD D.pl) (tabD_ok _) (plD_ok _) A' N' C')) (by assumption) ?_
                try simp only [Act.put, List.setIfInBounds_toArray, List.set_cons_zero, List.set_cons_succ, List.getElem_toArray, List.getElem_cons_zero, List.getElem_cons_succ]
                refine wpAnyH_ready (rs := [17]) (by kernel_rfl) (by simp) ?_
                refine AllReadyH.cons rfl (fun K hK => ?_) ?_
                ·
                  go_simp
                  go_at_call 17
                  refine (ofP HDE.out C').mono ?_
                  rintro e wsato ⟨⟨pre, rfl, hpre⟩, hbn⟩
                  have HPR := Lib.hid hpre
                  clear hpre
                  have HSNato := Lib.hid (HSNat.out.later hbn)
                  have HGato := Lib.hid (HGat.out.later hbn)
                  clear hbn
                  refine hK.out _ _ HSNato.out.d (fun hHeld => ?_)
                  clear hK K
                  try simp only [Act.put, List.setIfInBounds_toArray, List.set_cons_zero, List.set_cons_succ, List.getElem_toArray, List.getElem_cons_zero, List.getElem_cons_succ]
                  refine wpAnyH_ready (rs := [19]) (by kernel_rfl) (by simp) ?_
                  refine AllReadyH.cons rfl (fun K hK => ?_) AllReadyH.nil
                  rw [if_pos (by rfl)]
                  refine wp_store_part _ _ _ rfl gt 0 _ ((pre ++ [Value.slice none 0 0])) rfl rfl rfl _ ([]) (zTh) ([]) (by simpa using HGato.out) rfl (by rw [(HPR.out.nil w).len]; rfl) ((HPR.out.nil w).info) (HPR.out.nil w).one ?_
                  intro wy hp
                  refine hK.out _ _ (HSNato.out.put hp HGato.out HLT.out).d (fun hHeld => ?_)
                  clear hK K
                  try simp only [Act.put, List.setIfInBounds_toArray, List.set_cons_zero, List.set_cons_succ, List.getElem_toArray, List.getElem_cons_zero, List.getElem_cons_succ]
                  refine wpAnyH_done (by kernel_rfl) ?_ _
                  have KS := Lib.hid ((HSNato.out.put hp HGato.out HLT.out).nx (by have := hp.bk; simpa using this) HLT.out (HPR.out.nil wy))
                  clear hp hHeld
                  go_wp2_with fail
                  go_meet
                  exact ⟨gt, pre, rfl, KS, HPR⟩
                exact AllReadyH.nil
              exact AllReadyH.nil
            exact AllReadyH.nil
          obtain ⟨gt, pre, rfl, HNT, HPR⟩ := hcut
          obtain ⟨w9, hw9⟩ : ∃ w9, w9 = wc := ⟨_, rfl⟩
          subst hw9
          clear HSN8
          refine ‹∀ (a : Act) (w : World), Code.wp _ _ _ a w → _› _ _ ?_
          have hzs := HNT.out.fh.zs_
          obtain ⟨A7, C7, hv7, _⟩ := hzs
          subst hv7
          obtain ⟨n, hn⟩ : ∃ n, zs.length = n := ⟨_, rfl⟩
          have HZN := Lib.hid hn
          have HZL : Hid (n ≤ 20) := by show n ≤ 20; have h1 := HSS.out.2.1; have h2 := HN20.out; omega
          rw [hn]
          obtain ⟨T0, hT0⟩ : ∃ T, toT (deR D) = T := ⟨_, rfl⟩
          have HT0 := Lib.hid hT0
          have hT0' : toT { deR D with ss := [] } = T0 := hT0
          rw [hT0'] at HNT
          rw [hn] at HNT
          clear hn hT0 hT0'
          go_wp2_with fail
          go_loopw [12, 13, 14, 15, 16, 17, 18, 73] (fun _ _ _ _ _ _ _ jv wr => ∃ j : Nat, j ≤ n ∧ jv = .int .i64 j ∧ ∃ (T : Tg) (nc : List Value), Hid (NX w wr lo g v6 (.slice A7 n C7) ys zs es gt nc T) ∧ Hid (T = pickH ((zs.take j).map (·.2)) T0)) (fun _ _ _ _ _ _ _ jv _ => n - (intOf jv).toNat)
          case atStart => exact ⟨0, Nat.zero_le _, rfl, T0, _, HNT, by show T0 = _; simp [pickH]⟩
          case round =>
            clear HNT
            obtain ⟨j, hj, rfl, T, nc, HNT, HTE⟩ := hrel
            by_cases hjl : j < n
            · have hji : (j : Int) < n := by omega
              have hj0 : (0 : Int) ≤ j := by omega
              obtain ⟨y, hy⟩ : ∃ y, zs[j]? = some y := ⟨zs[j]'(by rw [HZN.out]; omega), List.getElem?_eq_getElem _⟩
              have HPK : Hid (pickH ((zs.take (j + 1)).map (·.2)) T0 = if sameP y.2 T = true then y.2 else T) := by
                show _ = _
                rw [List.take_add_one, hy]
                simp only [Option.toList_some, List.map_append, List.map_cons, List.map_nil]
                rw [pickH_add, ← HTE.out]
              have hths : Ths wr A7 n zs := by
                obtain ⟨A', C', e, h⟩ := HNT.out.fh.zs_
                injection e with e1 e2 e3
                subst e1
                rw [← HZN.out]; exact h
              obtain ⟨b', o', rfl, hr⟩ := hths.at_ hy
              have HX := Lib.hid (HNT.out.fh.th y (List.mem_of_getElem? hy)); have HR := Lib.hid hr
              clear hy hr hths HTE
              go_wp2_with (first
                | (with_reducible refine wpList_load_mid rfl 35 _ rfl b' (o' + j * 30) rfl y.1 _ HR.out Try.underlying35 rfl HX.out.info ?_)
                | (with_reducible refine stop_store 35 _ _ rfl ?_))
              refine StopD.go ?_
              obtain ⟨r, hr⟩ : ∃ q, wr.heap.size = q := ⟨_, rfl⟩
              obtain ⟨w5, hw5⟩ : ∃ w5, wr.alloc (.cells #[.int .i64 0, .int .u8 0, .int .u8 0, .int .u8 0, .int .u8 0, .int .u8 0, .int .u8 0, .int .u8 0, .int .u8 0, .int .i64 0, .slice none 0 0, .int .u8 0, .int .u8 0, .int .u8 0, .int .u8 0, .int .u8 0, .int .u8 0, .int .u8 0, .int .u8 0, .int .i64 0, .int .u8 0, .int .u8 0, .int .u8 0, .int .u8 0, .int .u8 0, .int .u8 0, .int .u8 0, .int .u8 0, .slice none 0 0, .slice none 0 0] 35) = w5 := ⟨_, rfl⟩
              have hbn : Below wr.heap.size wr w5 := hw5 ▸ below_new wr _
              have kb : Bk w5 r 35 ([] ++ (zTh ++ [])) := by rw [← hw5]; exact Bk.at_ wr _ _ hr rfl
              rw [hr, hw5]
              refine wpList_store_part rfl 35 _ _ rfl r 0 (.agg y.1.toArray) y.1 rfl rfl rfl 35 [] zTh [] kb rfl (by rw [HX.out.len]; rfl) HX.out.info HX.out.one ?_
              intro w6 hp
              have hbn : Below wr.heap.size wr w6 := hbn.grown hp.only hbn.size (fun q' hq' => by injection hq' with hq'; omega)
              have HNT6 := Lib.hid (HNT.out.later hbn); have HX6 := Lib.hid (HX.out.later hbn)
              have HR6 : Hid (Bk w6 r 35 y.1) := by show Bk _ _ _ _; have := hp.bk; simpa using this
              clear hp hbn kb hr hw5 HNT HX HR
              go_wp2_with (with_reducible refine wpList_load_bk rfl 35 _ rfl r rfl y.1 35 HR6.out _ Try.underlying35 rfl HX6.out.info ?_)
              refine (thPlace (HX6.out.thg HNT6.out.fh.fi.hb)).mono ?_
              rintro e w7 ⟨rfl, hbn⟩
              have HNT7 := Lib.hid (HNT6.out.later hbn); have HX7 := Lib.hid (HX6.out.later hbn); have HR7 := Lib.hid (HR6.out.later hbn)
              clear hbn HNT6 HX6 HR6
              have hpt := placeT_ok (k := (y.2).k) HX7.out.ht HX7.out.hu
              have hpa := placeA_ok (k := (y.2).k) HX7.out.hv
              go_wp2_with (with_reducible refine stop_store 29 _ _ rfl ?_)
              refine StopD.go ?_
              obtain ⟨p, hp⟩ : ∃ p, w7.heap.size = p := ⟨_, rfl⟩
              obtain ⟨wz, hwz⟩ : ∃ w', (w7.alloc (.cells #[.int .u8 0, .int .u8 0, .int .u8 0, .int .u8 0, .int .u8 0, .int .u8 0, .int .u8 0, .int .u8 0] 29)).alloc (.cells #[.int .u8 0, .int .u8 0, .int .u8 0, .int .u8 0, .int .u8 0, .int .u8 0, .int .u8 0, .int .u8 0] 29) = w' := ⟨_, rfl⟩
              have hbn : Below w7.heap.size w7 wz := hwz ▸ (below_new w7 _).alloc (by simp) _
              have kt : Bk wz p 29 ([] ++ (dl zeroD ++ [])) := hwz ▸ (Bk.at_ w7 _ #[.int .u8 0, .int .u8 0, .int .u8 0, .int .u8 0, .int .u8 0, .int .u8 0, .int .u8 0, .int .u8 0] hp rfl).alloc _
              have ku : Bk wz (p + 1) 29 ([] ++ (dl zeroD ++ [])) := hwz ▸ Bk.at_ _ _ #[.int .u8 0, .int .u8 0, .int .u8 0, .int .u8 0, .int .u8 0, .int .u8 0, .int .u8 0, .int .u8 0] (by simp [hp]) rfl
              have hle : w7.heap.size ≤ p := by omega
              rw [hp, hwz]
              refine wpList_store_part rfl 29 _ _ rfl p 0 (.agg (dl (placeT (y.2).k (y.2).t (y.2).u)).toArray) (dl (placeT (y.2).k (y.2).t (y.2).u)) rfl rfl rfl 29 [] (dl zeroD) [] kt rfl ((dl_len zeroD).trans (zero_ok.len.trans (hpt.len.symm.trans (dl_len _).symm))) (dg_sz hpt) (dl_one _) ?_
              intro wa hp
              have hbn := hbn.grown hp.only hbn.size (fun q hq => by injection hq with hq; omega)
              have JTpa : Hid (Bk wa p 29 (dl (placeT (y.2).k (y.2).t (y.2).u))) := by show Bk _ _ _ _; have := hp.bk; simpa using this
              have ku := Lib.hid (ku.grown hp.only (by intro h; injection h with h; omega))
              have HBZ := Lib.hid hbn; have HLE := Lib.hid hle
              clear hp hbn kt hwz hle
              go_wp2_with (with_reducible refine stop_store 29 _ _ rfl ?_)
              refine StopD.go ?_
              refine wpList_store_part rfl 29 _ _ rfl (p + 1) 0 (.agg (dl (placeA (y.2).k (y.2).v)).toArray) (dl (placeA (y.2).k (y.2).v)) rfl rfl rfl 29 [] (dl zeroD) [] ku.out rfl ((dl_len zeroD).trans (zero_ok.len.trans (hpa.len.symm.trans (dl_len _).symm))) (dg_sz hpa) (dl_one _) ?_
              intro w8 hp
              have hbn : Below w7.heap.size w7 w8 := HBZ.out.grown hp.only HBZ.out.size (fun q hq => by injection hq with hq; have := HLE.out; omega)
              have JTp8 := Lib.hid (JTpa.out.grown hp.only (by intro h; injection h with h; omega))
              have JAp8 : Hid (Bk w8 (p + 1) 29 (dl (placeA (y.2).k (y.2).v))) := by show Bk _ _ _ _; have := hp.bk; simpa using this
              clear hp ku JTpa HBZ HLE
              clear hpa hpt hp
              have HNT8 := Lib.hid (HNT7.out.later hbn); have HX8 := Lib.hid (HX7.out.later hbn); have HR8 := Lib.hid (HR7.out.later hbn)
              clear hbn HNT7 HX7 HR7
              go_wp2_with (with_reducible refine wpList_load_bk rfl 35 _ rfl gt rfl nc 35 HNT8.out.nx _ Try.underlying35 rfl HNT8.out.th.info ?_)
              refine (thPlace (HNT8.out.th.thg HNT8.out.fh.fi.hb)).mono ?_
              rintro e w9 ⟨rfl, hbn⟩
              have HNT9 := Lib.hid (HNT8.out.later hbn); have HX9 := Lib.hid (HX8.out.later hbn); have HR9 := Lib.hid (HR8.out.later hbn); have JTp9 := Lib.hid (JTp8.out.later hbn); have JAp9 := Lib.hid (JAp8.out.later hbn); have HTN9 := Lib.hid HNT9.out.th
              clear hbn HNT8 HX8 HR8 JTp8 JAp8
              have hpt := placeT_ok (k := (T).k) HTN9.out.ht HTN9.out.hu
              have hpa := placeA_ok (k := (T).k) HTN9.out.hv
              go_wp2_with (with_reducible refine stop_store 29 _ _ rfl ?_)
              refine StopD.go ?_
              obtain ⟨t, ht⟩ : ∃ p, w9.heap.size = p := ⟨_, rfl⟩
              obtain ⟨wz, hwz⟩ : ∃ w', (w9.alloc (.cells #[.int .u8 0, .int .u8 0, .int .u8 0, .int .u8 0, .int .u8 0, .int .u8 0, .int .u8 0, .int .u8 0] 29)).alloc (.cells #[.int .u8 0, .int .u8 0, .int .u8 0, .int .u8 0, .int .u8 0, .int .u8 0, .int .u8 0, .int .u8 0] 29) = w' := ⟨_, rfl⟩
              have hbn : Below w9.heap.size w9 wz := hwz ▸ (below_new w9 _).alloc (by simp) _
              have kt : Bk wz t 29 ([] ++ (dl zeroD ++ [])) := hwz ▸ (Bk.at_ w9 _ #[.int .u8 0, .int .u8 0, .int .u8 0, .int .u8 0, .int .u8 0, .int .u8 0, .int .u8 0, .int .u8 0] ht rfl).alloc _
              have ku : Bk wz (t + 1) 29 ([] ++ (dl zeroD ++ [])) := hwz ▸ Bk.at_ _ _ #[.int .u8 0, .int .u8 0, .int .u8 0, .int .u8 0, .int .u8 0, .int .u8 0, .int .u8 0, .int .u8 0] (by simp [ht]) rfl
              have hle : w9.heap.size ≤ t := by omega
              rw [ht, hwz]
              refine wpList_store_part rfl 29 _ _ rfl t 0 (.agg (dl (placeT (T).k (T).t (T).u)).toArray) (dl (placeT (T).k (T).t (T).u)) rfl rfl rfl 29 [] (dl zeroD) [] kt rfl ((dl_len zeroD).trans (zero_ok.len.trans (hpt.len.symm.trans (dl_len _).symm))) (dg_sz hpt) (dl_one _) ?_
              intro wa hp
              have hbn := hbn.grown hp.only hbn.size (fun q hq => by injection hq with hq; omega)
              have JTta : Hid (Bk wa t 29 (dl (placeT (T).k (T).t (T).u))) := by show Bk _ _ _ _; have := hp.bk; simpa using this
              have ku := Lib.hid (ku.grown hp.only (by intro h; injection h with h; omega))
              have HBZ := Lib.hid hbn; have HLE := Lib.hid hle
              clear hp hbn kt hwz hle
              go_wp2_with (with_reducible refine stop_store 29 _ _ rfl ?_)
              refine StopD.go ?_
              refine wpList_store_part rfl 29 _ _ rfl (t + 1) 0 (.agg (dl (placeA (T).k (T).v)).toArray) (dl (placeA (T).k (T).v)) rfl rfl rfl 29 [] (dl zeroD) [] ku.out rfl ((dl_len zeroD).trans (zero_ok.len.trans (hpa.len.symm.trans (dl_len _).symm))) (dg_sz hpa) (dl_one _) ?_
              intro w10 hp
              have hbn : Below w9.heap.size w9 w10 := HBZ.out.grown hp.only HBZ.out.size (fun q hq => by injection hq with hq; have := HLE.out; omega)
              have JTt10 := Lib.hid (JTta.out.grown hp.only (by intro h; injection h with h; omega))
              have JAt10 : Hid (Bk w10 (t + 1) 29 (dl (placeA (T).k (T).v))) := by show Bk _ _ _ _; have := hp.bk; simpa using this
              clear hp ku JTta HBZ HLE
              clear hpa hpt ht
              have NXe := Lib.hid (HNT9.out.later hbn); have HXe := Lib.hid (HX9.out.later hbn); have HRe := Lib.hid (HR9.out.later hbn); have KP := Lib.hid (JTp9.out.later hbn); have KPA := Lib.hid (JAp9.out.later hbn)
              have KQ := Lib.hid JTt10.out; have KQA := Lib.hid JAt10.out
              clear hbn HNT9 HX9 HR9 JTp9 JAp9 HTN9 JTt10 JAt10
              have hc1 := thk_cell' HXe.out HRe.out
              have hc2 := thk_cell' NXe.out.th NXe.out.nx
              have o1 := placeT_ok (k := y.2.k) HXe.out.ht HXe.out.hu; have o2 := placeT_ok (k := T.k) NXe.out.th.ht NXe.out.th.hu
              have o3 := placeA_ok (k := y.2.k) HXe.out.hv; have o4 := placeA_ok (k := T.k) NXe.out.th.hv
              have h1 := dg_eq_run _ _ o1 o2; have h2 := dg_eq_run _ _ o3 o4
              have z1 := Lib.hid (dg_sz o1); have z2 := Lib.hid (dg_sz o2); have z3 := Lib.hid (dg_sz o3); have z4 := Lib.hid (dg_sz o4)
              have hsp : sameP y.2 T = ((((y.2.k == T.k) && eqL (placeT y.2.k y.2.t y.2.u) (placeT T.k T.t T.u)) && (placeN y.2.k y.2.n y.2.m == placeN T.k T.n T.m)) && eqL (placeA y.2.k y.2.v) (placeA T.k T.v)) := rfl
              obtain ⟨b1, hb1⟩ : ∃ b, (y.2.k == T.k) = b := ⟨_, rfl⟩
              obtain ⟨b2, hb2⟩ : ∃ b, eqL (placeT y.2.k y.2.t y.2.u) (placeT T.k T.t T.u) = b := ⟨_, rfl⟩
              obtain ⟨b3, hb3⟩ : ∃ b, (placeN y.2.k y.2.n y.2.m == placeN T.k T.n T.m) = b := ⟨_, rfl⟩
              obtain ⟨b4, hb4⟩ : ∃ b, eqL (placeA y.2.k y.2.v) (placeA T.k T.v) = b := ⟨_, rfl⟩
              rw [hb1, hb2, hb3, hb4] at hsp
              rw [hb2] at h1
              rw [hb4] at h2
              have HSP := Lib.hid hsp
              clear hsp hb2 hb4 o1 o2 o3 o4
              obtain ⟨x1, hx1⟩ : ∃ x, placeT y.2.k y.2.t y.2.u = x := ⟨_, rfl⟩
              obtain ⟨y1, hy1⟩ : ∃ x, placeT T.k T.t T.u = x := ⟨_, rfl⟩
              obtain ⟨x2, hx2⟩ : ∃ x, placeA y.2.k y.2.v = x := ⟨_, rfl⟩
              obtain ⟨y2, hy2⟩ : ∃ x, placeA T.k T.v = x := ⟨_, rfl⟩
              rw [hx1] at KP h1 z1
              rw [hy1] at KQ h1 z2
              rw [hx2] at KPA h2 z3
              rw [hy2] at KQA h2 z4
              clear hx1 hy1 hx2 hy2
              cases b1
              ·
                have hzl := HZL.out
                go_wp2_with (first
                  | ((with_reducible refine wpList_load_bkG ?_ 29 _ rfl p rfl (dl x1) 29 KP.out _ Try.underlying29 rfl z1.out ?_); rfl)
                  | ((with_reducible refine wpList_load_bkG ?_ 29 _ rfl t rfl (dl y1) 29 KQ.out _ Try.underlying29 rfl z2.out ?_); rfl)
                  | ((with_reducible refine wpList_load_bkG ?_ 29 _ rfl (p + 1) rfl (dl x2) 29 KPA.out _ Try.underlying29 rfl z3.out ?_); rfl)
                  | ((with_reducible refine wpList_load_bkG ?_ 29 _ rfl (t + 1) rfl (dl y2) 29 KQA.out _ Try.underlying29 rfl z4.out ?_); rfl))
                go_roundw
                case rel =>
                  refine ⟨j + 1, hjl, by go_num, T, nc, NXe.out, ?_⟩
                  show T = _
                  rw [HPK.out, if_neg (by rw [HSP.out]; simp)]
                case measure => simp [intOf]; omega
              cases b2
              ·
                have hzl := HZL.out
                go_wp2_with (first
                  | ((with_reducible refine wpList_load_bkG ?_ 29 _ rfl p rfl (dl x1) 29 KP.out _ Try.underlying29 rfl z1.out ?_); rfl)
                  | ((with_reducible refine wpList_load_bkG ?_ 29 _ rfl t rfl (dl y1) 29 KQ.out _ Try.underlying29 rfl z2.out ?_); rfl)
                  | ((with_reducible refine wpList_load_bkG ?_ 29 _ rfl (p + 1) rfl (dl x2) 29 KPA.out _ Try.underlying29 rfl z3.out ?_); rfl)
                  | ((with_reducible refine wpList_load_bkG ?_ 29 _ rfl (t + 1) rfl (dl y2) 29 KQA.out _ Try.underlying29 rfl z4.out ?_); rfl))
                go_roundw
                case rel =>
                  refine ⟨j + 1, hjl, by go_num, T, nc, NXe.out, ?_⟩
                  show T = _
                  rw [HPK.out, if_neg (by rw [HSP.out]; simp)]
                case measure => simp [intOf]; omega
              cases b3
              ·
                have hzl := HZL.out
                go_wp2_with (first
                  | ((with_reducible refine wpList_load_bkG ?_ 29 _ rfl p rfl (dl x1) 29 KP.out _ Try.underlying29 rfl z1.out ?_); rfl)
                  | ((with_reducible refine wpList_load_bkG ?_ 29 _ rfl t rfl (dl y1) 29 KQ.out _ Try.underlying29 rfl z2.out ?_); rfl)
                  | ((with_reducible refine wpList_load_bkG ?_ 29 _ rfl (p + 1) rfl (dl x2) 29 KPA.out _ Try.underlying29 rfl z3.out ?_); rfl)
                  | ((with_reducible refine wpList_load_bkG ?_ 29 _ rfl (t + 1) rfl (dl y2) 29 KQA.out _ Try.underlying29 rfl z4.out ?_); rfl))
                go_roundw
                case rel =>
                  refine ⟨j + 1, hjl, by go_num, T, nc, NXe.out, ?_⟩
                  show T = _
                  rw [HPK.out, if_neg (by rw [HSP.out]; simp)]
                case measure => simp [intOf]; omega
              cases b4
              ·
                have hzl := HZL.out
                go_wp2_with (first
                  | ((with_reducible refine wpList_load_bkG ?_ 29 _ rfl p rfl (dl x1) 29 KP.out _ Try.underlying29 rfl z1.out ?_); rfl)
                  | ((with_reducible refine wpList_load_bkG ?_ 29 _ rfl t rfl (dl y1) 29 KQ.out _ Try.underlying29 rfl z2.out ?_); rfl)
                  | ((with_reducible refine wpList_load_bkG ?_ 29 _ rfl (p + 1) rfl (dl x2) 29 KPA.out _ Try.underlying29 rfl z3.out ?_); rfl)
                  | ((with_reducible refine wpList_load_bkG ?_ 29 _ rfl (t + 1) rfl (dl y2) 29 KQA.out _ Try.underlying29 rfl z4.out ?_); rfl))
                go_roundw
                case rel =>
                  refine ⟨j + 1, hjl, by go_num, T, nc, NXe.out, ?_⟩
                  show T = _
                  rw [HPK.out, if_neg (by rw [HSP.out]; simp)]
                case measure => simp [intOf]; omega
              go_wp2_with (first
                | ((with_reducible refine wpList_load_bkG ?_ 29 _ rfl p rfl (dl x1) 29 KP.out _ Try.underlying29 rfl z1.out ?_); rfl)
                | ((with_reducible refine wpList_load_bkG ?_ 29 _ rfl t rfl (dl y1) 29 KQ.out _ Try.underlying29 rfl z2.out ?_); rfl)
                | ((with_reducible refine wpList_load_bkG ?_ 29 _ rfl (p + 1) rfl (dl x2) 29 KPA.out _ Try.underlying29 rfl z3.out ?_); rfl)
                | ((with_reducible refine wpList_load_bkG ?_ 29 _ rfl (t + 1) rfl (dl y2) 29 KQA.out _ Try.underlying29 rfl z4.out ?_); rfl)
                | (with_reducible refine wpList_load_bk rfl 35 _ rfl r rfl y.1 35 HRe.out _ Try.underlying35 rfl HXe.out.info ?_)
                | (with_reducible refine stop_store 35 _ _ rfl ?_))
              refine StopD.go ?_
              refine wpList_store_part rfl 35 _ _ rfl gt 0 (.agg y.1.toArray) y.1 rfl rfl rfl 35 [] nc [] (by simpa using NXe.out.nx) rfl (by rw [HXe.out.len, NXe.out.th.len]) HXe.out.info HXe.out.one ?_
              intro w11 hp
              have HNT11 := Lib.hid (NXe.out.put (cs' := y.1) (by simpa using hp) (HXe.out.grown hp.only NXe.out.nx (by decide)))
              clear hp h1 h2 hc1 hc2 hb1 hb3
              have hzl := HZL.out
              go_wp2_with fail
              go_roundw
              case rel =>
                refine ⟨j + 1, hjl, by go_num, y.2, y.1, HNT11, ?_⟩
                show y.2 = _
                rw [HPK.out, if_pos (by rw [HSP.out]; rfl)]
              case measure => simp [intOf]; omega
            · have hjn : n = j := by omega
              subst hjn
              have HTE2 : Hid (T = pickH (zs.map (·.2)) T0) := by show _ = _; have := HTE.out; rwa [List.take_of_length_le (by rw [HZN.out]; exact Nat.le_refl _)] at this
              clear HTE hjl hj
              obtain ⟨pre2, A3, N3, C3, rfl, hl2, _, hmk⟩ := HNT.out.th.sig
              have HL2 := Lib.hid hl2; have HMK := Lib.hid hmk
              clear hl2 hmk
              go_upto_region 22 with fail
              go_cut [10] (fun p wx => p = .pointer (some ⟨gt, 0, none⟩) ∧ ∃ (nc : List Value), Hid (NX w wx lo g v6 (.slice A7 n C7) ys zs (bookS es (keyD hon, dgT T)) gt nc { T with ss := sigB (es.idxOf (keyD hon, dgT T)) }))
              case first =>
                as_aux_lemma =>
                refine wp_region_L [(14, fun w' => Bk w' gt 35 (pre2 ++ [Value.slice A3 N3 C3]))] (by kernel_rfl) ⟨fun _ => Bk.drew HNT.out.nx, trivial⟩ (fun hHeld => ?_)
                have hbd : Below wr.heap.size wr wr.drew := below_draws wr wr.heap.size 1
                obtain ⟨wa, hwa⟩ : ∃ wa, wr.drew = wa := ⟨_, rfl⟩
                rw [hwa] at hbd hHeld ⊢
                have HNTa := Lib.hid (HNT.out.later hbd)
                clear hwa hbd
                refine wpAnyL_take0 (i := 0) (v := ?_) rfl (by kernel_rfl) (by kernel_rfl) (by kernel_rfl) (by rfl) (fun _ _ _ h => h) (Or.inl ⟨by rfl, ?_⟩) hHeld ?_
                rotate_left
                · intro w _
                  go_simp
                  try with_reducible rfl
                clear hHeld
                intro hHeld
                try simp only [Act.put, List.setIfInBounds_toArray, List.set_cons_zero, List.set_cons_succ, List.getElem_toArray, List.getElem_cons_zero, List.getElem_cons_succ]
                refine wpAnyL_take0 (i := 1) (v := ?_) rfl (by kernel_rfl) (by kernel_rfl) (by kernel_rfl) (by rfl) (fun _ _ _ h => h) (Or.inl ⟨by rfl, ?_⟩) hHeld ?_
                rotate_left
                · intro w _
                  go_simp
                  try with_reducible rfl
                clear hHeld
                intro hHeld
                try simp only [Act.put, List.setIfInBounds_toArray, List.set_cons_zero, List.set_cons_succ, List.getElem_toArray, List.getElem_cons_zero, List.getElem_cons_succ]
                refine wpAnyL_take (i := 4) 0 rfl rfl (by kernel_rfl) (by kernel_rfl) (by kernel_rfl) (by kernel_rfl) (by kernel_rfl) (by rfl) (fun _ _ _ h => h) (v := .agg (List.toArray (pre2 ++ [Value.slice A3 N3 C3]))) (yieldsIf_load_mid (by rfl) _ _ rfl _ _ rfl (pre2 ++ [Value.slice A3 N3 C3]) _ (fun w hSw => (Bk.range (pre := []) (post := []) (by simpa using hSw) rfl)) Try.underlying35 rfl (HNT.out.th.info)) hHeld ?_
                clear hHeld
                intro hHeld
                try simp only [Act.put, List.setIfInBounds_toArray, List.set_cons_zero, List.set_cons_succ, List.getElem_toArray, List.getElem_cons_zero, List.getElem_cons_succ]
                refine wpAnyL_ready (rs := [2]) (by kernel_rfl) (by simp) ?_
                refine AllReadyL.cons rfl (fun K hK => ?_) AllReadyL.nil
                go_simp
                (go_at_call 27; refine (key_any wa hon).mono ?_; rintro e wb ⟨rfl, hbn⟩; have HNTb := Lib.hid (HNTa.out.later hbn); clear hbn)
                refine hK.out _ _ (⟨fun _ => HNTb.out.nx, trivial⟩) (fun hHeld => ?_)
                clear hK K
                try simp only [Act.put, List.setIfInBounds_toArray, List.set_cons_zero, List.set_cons_succ, List.getElem_toArray, List.getElem_cons_zero, List.getElem_cons_succ]
                refine wpAnyL_ready (rs := [3]) (by kernel_rfl) (by simp) ?_
                refine AllReadyL.cons rfl (fun K hK => ?_) AllReadyL.nil
                go_simp
                (go_at_call 26; refine (signer_any wb g (keyD hon) (keyD_ok _)).mono ?_; rintro e wd ⟨rfl, hbn⟩; have HNTd := Lib.hid (HNTb.out.later hbn); clear hbn)
                refine hK.out _ _ (⟨fun _ => HNTd.out.nx, trivial⟩) (fun hHeld => ?_)
                clear hK K
                try simp only [Act.put, List.setIfInBounds_toArray, List.set_cons_zero, List.set_cons_succ, List.getElem_toArray, List.getElem_cons_zero, List.getElem_cons_succ]
                refine wpAnyL_take0 (i := 6) (v := ?_) rfl (by kernel_rfl) (by kernel_rfl) (by kernel_rfl) (by rfl) (fun _ _ _ h => h) (Or.inl ⟨by rfl, ?_⟩) hHeld ?_
                rotate_left
                · intro w _
                  go_simp
                  try with_reducible rfl
                clear hHeld
                intro hHeld
                try simp only [Act.put, List.setIfInBounds_toArray, List.set_cons_zero, List.set_cons_succ, List.getElem_toArray, List.getElem_cons_zero, List.getElem_cons_succ]
                refine wpAnyL_take0 (i := 7) (v := ?_) rfl (by kernel_rfl) (by kernel_rfl) (by kernel_rfl) (by rfl) (fun _ _ _ h => h) (Or.inl ⟨by rfl, ?_⟩) hHeld ?_
                rotate_left
                · intro w _
                  have hcell := nil_wr (wrC g (keyD hon)).toArray
                  go_simp
                  try with_reducible rfl
                clear hHeld
                intro hHeld
                try simp only [Act.put, List.setIfInBounds_toArray, List.set_cons_zero, List.set_cons_succ, List.getElem_toArray, List.getElem_cons_zero, List.getElem_cons_succ]
                refine wpAnyL_take0 (i := 8) (v := ?_) rfl (by kernel_rfl) (by kernel_rfl) (by kernel_rfl) (by rfl) (fun _ _ _ h => h) (Or.inl ⟨by rfl, ?_⟩) hHeld ?_
                rotate_left
                · intro w _
                  go_simp
                  try with_reducible rfl
                clear hHeld
                intro hHeld
                try simp only [Act.put, List.setIfInBounds_toArray, List.set_cons_zero, List.set_cons_succ, List.getElem_toArray, List.getElem_cons_zero, List.getElem_cons_succ]
                refine wpAnyL_ready (rs := [5]) (by kernel_rfl) (by simp) ?_
                refine AllReadyL.cons rfl (fun K hK => ?_) AllReadyL.nil
                go_simp
                (go_at_call 28; refine (thDigest (HNTd.out.th.thg HNTd.out.fh.fi.hb)).mono ?_; rintro e we ⟨rfl, hbn⟩; have HNTe := Lib.hid (HNTd.out.later hbn); clear hbn)
                refine hK.out _ _ (⟨fun _ => HNTe.out.nx, trivial⟩) (fun hHeld => ?_)
                clear hK K
                try simp only [Act.put, List.setIfInBounds_toArray, List.set_cons_zero, List.set_cons_succ, List.getElem_toArray, List.getElem_cons_zero, List.getElem_cons_succ]
                have hmt := meth_wr (wrC g (keyD hon)).toArray
                refine wpAnyL_ready (rs := [9]) (by kernel_rfl) (by simp) ?_
                refine AllReadyL.cons rfl (fun K hK => ?_) AllReadyL.nil
                go_simp
                (refine (wsign_any we lo g es HNTe.out.fh.fi.bk (keyD hon) (dgT T) (keyD_ok _) (dgT_ok _) HEL.out HNTe.out.fh.fi.lh).mono ?_; rintro e wf ⟨⟨A9, c9, rfl, hown⟩, hbk7, hb7, hk7⟩; have HNTf := Lib.hid (HNTe.out.sign hk7 hb7 hbk7); have HOW := Lib.hid (own_base hown (Nat.zero_le _)); clear hown hbk7 hb7 hk7 hmt)
                refine hK.out _ _ (⟨fun _ => HNTf.out.nx, trivial⟩) (fun hHeld => ?_)
                clear hK K
                try simp only [Act.put, List.setIfInBounds_toArray, List.set_cons_zero, List.set_cons_succ, List.getElem_toArray, List.getElem_cons_zero, List.getElem_cons_succ]
                refine wpAnyL_take0 (i := 10) (v := ?_) rfl (by kernel_rfl) (by kernel_rfl) (by kernel_rfl) (by rfl) (fun _ _ _ h => h) (Or.inl ⟨by rfl, ?_⟩) hHeld ?_
                rotate_left
                · intro w _
                  go_simp
                  try with_reducible rfl
                clear hHeld
                intro hHeld
                try simp only [Act.put, List.setIfInBounds_toArray, List.set_cons_zero, List.set_cons_succ, List.getElem_toArray, List.getElem_cons_zero, List.getElem_cons_succ]
                refine wpAnyL_take0 (i := 11) (v := ?_) rfl (by kernel_rfl) (by kernel_rfl) (by kernel_rfl) (by rfl) (fun _ _ _ h => h) (Or.inl ⟨by rfl, ?_⟩) hHeld ?_
                rotate_left
                · intro w _
                  go_simp
                  try with_reducible rfl
                clear hHeld
                intro hHeld
                try simp only [Act.put, List.setIfInBounds_toArray, List.set_cons_zero, List.set_cons_succ, List.getElem_toArray, List.getElem_cons_zero, List.getElem_cons_succ]
                refine wpAnyL_take0 (i := 12) (v := ?_) rfl (by kernel_rfl) (by kernel_rfl) (by kernel_rfl) (by rfl) (fun _ _ _ h => h) (Or.inl ⟨by rfl, ?_⟩) hHeld ?_
                rotate_left
                · intro w _
                  go_simp
                  try with_reducible rfl
                clear hHeld
                intro hHeld
                try simp only [Act.put, List.setIfInBounds_toArray, List.set_cons_zero, List.set_cons_succ, List.getElem_toArray, List.getElem_cons_zero, List.getElem_cons_succ]
                refine wpAnyL_take0 (i := 13) (v := ?_) rfl (by kernel_rfl) (by kernel_rfl) (by kernel_rfl) (by rfl) (fun _ _ _ h => h) (Or.inl ⟨by rfl, ?_⟩) hHeld ?_
                rotate_left
                · intro w _
                  go_simp
                  try with_reducible rfl
                clear hHeld
                intro hHeld
                try simp only [Act.put, List.setIfInBounds_toArray, List.set_cons_zero, List.set_cons_succ, List.getElem_toArray, List.getElem_cons_zero, List.getElem_cons_succ]
                refine wpAnyL_ready (rs := [14]) (by kernel_rfl) (by simp) ?_
                refine AllReadyL.cons rfl (fun K hK => ?_) AllReadyL.nil
                rw [if_pos (by rfl)]
                refine wp_store_part _ _ _ rfl gt 29 _ ([Value.slice A9 2 c9]) rfl rfl rfl _ (pre2) ([Value.slice A3 N3 C3]) ([]) (by have := HNTf.out.nx; simpa using this) HL2.out rfl (by kernel_rfl) (by intro x hx; simp at hx; subst hx; rfl) ?_
                intro wh hp
                refine hK.out _ _ ⟨fun h => dead h (by kernel_rfl), trivial⟩ (fun hHeld => ?_)
                clear hK K
                try simp only [Act.put, List.setIfInBounds_toArray, List.set_cons_zero, List.set_cons_succ, List.getElem_toArray, List.getElem_cons_zero, List.getElem_cons_succ]
                refine wpAnyL_done (by kernel_rfl) ?_ _
                have KO := own_only HOW.out hp.only (own_bk_ne HOW.out HNTf.out.nx (by decide))
                have KS := Lib.hid (HNTf.out.put (cs' := pre2 ++ [Value.slice A9 2 c9]) (by simpa using hp) (HMK.out wh A9 2 c9 (sigB (es.idxOf (keyD hon, dgT T))) (HNTf.out.th.grown hp.only HNTf.out.nx (by decide)) (.inr (by simpa using KO)) (sigB_ok (Nat.lt_of_le_of_lt List.idxOf_le_length HEL.out))))
                clear hp hHeld KO
                go_wp2_with fail
                go_meet
                exact ⟨rfl, _, KS⟩
              obtain ⟨rfl, nc, HNS⟩ := hcut
              obtain ⟨w4, hw4⟩ : ∃ w4, w4 = wc := ⟨_, rfl⟩
              subst hw4
              clear HNT HMK HL2
              refine ‹∀ (a : Act) (w : World), Code.wp _ _ _ a w → _› _ _ ?_
              go_wp2_with (first
                | (with_reducible refine wpList_load_bk rfl 35 _ rfl gt rfl nc 35 HNS.out.nx _ Try.underlying35 rfl HNS.out.th.info ?_)
                | (with_reducible refine stop_bs 68 _ _ rfl ?_))
              refine StopD.go ?_
              refine wpList_bsliceG rfl 68 1 _ rfl #[(0, .agg nc.toArray)] ?_ 35 nc (fun w => bs_th HNS.out.th w) ?_
              · simp [Act.eval, Act.put]
              intro q8 w8 hq8 hb8 hbn
              have HNS8 := Lib.hid (HNS.out.later hbn); have HB8 := Lib.hid hb8
              clear hq8 hb8 hbn HNS
              go_wp2_with (at_builtin; refine stop_here ?_)
              have hnz := HZN.out
              subst hnz
              refine StopD.go ?_
              obtain ⟨i0, z0', hi, hi0, hi1, hi2, hi3⟩ := th_parts
              have hn1 := HZL.out
              refine wpList_app _ rfl (.tmp 125) (.tmp 127) 68 rfl lo 35 i0 z0' 30 120 Try.underlying68 hi hi0 hi1 hi2 hi3 (by decide) _ _ _ rfl HNS8.out.fh.row _ _ _ _ _ rfl (Sl.of_own (HB8.out.own (base := 0) (size := 30) (cap := 1) (n := 1) (Nat.zero_le _) (Nat.le_refl _) (by omega) (by rw [HNS8.out.th.len]) (by rw [List.take_of_length_le (by rw [HNS8.out.th.len]; exact Nat.le_refl _)]))) HNS8.out.th.one (by unfold maxLen; omega) (by omega) HNS8.out.fh.fi.lh ?_
              intro v9 w9 hown hg hat
              have HNS9 := Lib.hid (HNS8.out.appU hown hg hat)
              clear hown hg hat hi hi0 hi1 hi2 hi3 hn1 HNS8 HB8
              obtain ⟨wq, hwq⟩ : ∃ wq, w9 = wq := ⟨_, rfl⟩
              subst hwq
              go_wp2_with (first
                | (with_reducible refine wpList_load_bk rfl 35 _ rfl gt rfl nc 35 HNS9.out.nx _ Try.underlying35 rfl HNS9.out.th.info ?_)
                | (with_reducible refine stop_bs 68 _ _ rfl ?_))
              refine StopD.go ?_
              refine wpList_bsliceG rfl 68 1 _ rfl #[(0, .agg nc.toArray)] ?_ 35 nc (fun w => bs_th HNS9.out.th w) ?_
              · simp [Act.eval, Act.put]
              intro q8 w8 hq8 hb8 hbn
              have HNS8 := Lib.hid (HNS9.out.later hbn); have HB8 := Lib.hid hb8
              clear hq8 hb8 hbn HNS9
              go_wp2_with (at_builtin; refine stop_here ?_)
              refine StopD.go ?_
              obtain ⟨i0, z0', hi, hi0, hi1, hi2, hi3⟩ := th_parts
              have hn1 := HSS.out.1; have hn2 := HN20.out
              refine wpList_app _ rfl (.tmp 129) (.tmp 131) 68 rfl lo 35 i0 z0' 30 120 Try.underlying68 hi hi0 hi1 hi2 hi3 (by decide) _ _ _ rfl HNS8.out.fh.fi.row _ _ _ _ _ rfl (Sl.of_own (HB8.out.own (base := 0) (size := 30) (cap := 1) (n := 1) (Nat.zero_le _) (Nat.le_refl _) (by omega) (by rw [HNS8.out.th.len]) (by rw [List.take_of_length_le (by rw [HNS8.out.th.len]; exact Nat.le_refl _)]))) HNS8.out.th.one (by unfold maxLen; omega) (by omega) HNS8.out.fh.fi.lh ?_
              intro v9 w9 hown hg hat
              have HEND := Lib.hid (HNS8.out.fh.appV (y := (nc, { T with ss := sigB (es.idxOf (keyD hon, dgT T)) })) HNS8.out.th hown hg hat)
              clear hown hg hat hi hi0 hi1 hi2 hi3 hn1 hn2 HNS8 HB8
              go_wp2_with fail
              case roundEnd =>
                refine ⟨⟨k + 1, hlt, by simp, _, _, rfl, rfl, _, _, _, HEND, ?_⟩, by simp [intOf]; omega⟩
                refine ⟨by simp [HSS.out.1], by simp [HSS.out.2.1], Nat.le_trans (bookS_le _ _) (Nat.succ_le_succ HSS.out.2.2.1), ?_⟩
                have ht := HTE2.out
                rw [← HT0.out] at ht
                rw [HNX.out, stepH, if_pos (by simpa [eqL] using HKE.out)]
                simp only [ownH, entH, ← ht, List.map_append, List.map_cons, List.map_nil]
      · have hki : ¬ ((k : Int) < N) := by omega
        have HEL : Hid (es.length ≤ 65536) := Nat.le_of_lt HEL.out
        obtain ⟨A8, C8, hv8, _⟩ := HFI.out.fi.ths
        subst hv8
        obtain ⟨n, hn⟩ : ∃ n, ys.length = n := ⟨_, rfl⟩
        have HN2 : Hid (n ≤ 20) := by show n ≤ 20; have h1 := HSS.out.1; have h2 := HN20.out; omega
        have HYN := Lib.hid hn
        have HTW := Lib.hid (fun tb i j => twI_none HSS.out.2.2.2 tb i j)
        rw [hn]
        clear hn hlt hk HSS
        go_wp2_with (with_reducible refine stop_bs 77 _ _ rfl ?_)
        refine StopD.go ?_
        refine wpList_bsliceG ?_ 77 2 #[(0, .const (.bool false)), (1, .const (.bool true))] ?_ #[(0, .bool false), (1, .bool true)] ?_ 4 [.bool false, .bool true] bs_tf ?_
        · rfl
        · rfl
        · simp [Act.eval]
        intro q8 w8 hq8 hb8 hbn
        have HFI8 := Lib.hid (HFI.out.later hbn); have HB8 := Lib.hid hb8
        clear hq8 hb8 hbn HFI
        go_wp2_with fail
        go_loopw [20, 21, 22, 23, 136] (fun _ _ _ _ kv wr => ∃ m : Nat, m ≤ 2 ∧ kv = .int .i64 m ∧ Hid (FH w wr lo g (.slice A8 ys.length C8) v7 ys zs es) ∧ Hid (Bk wr q8 4 [.bool false, .bool true])) (fun _ _ _ _ kv _ => 2 - (intOf kv).toNat)
        case atStart => exact ⟨0, by omega, rfl, HFI8, HB8⟩
        case round =>
          clear HFI8 HB8
          obtain ⟨m, hm, rfl, HFI, HB⟩ := hrel
          by_cases hml : m < 2
          · have hmi : (m : Int) < 2 := by omega
            have hm0 : (0 : Int) ≤ m := by omega
            obtain ⟨b, hb⟩ : ∃ b, wr.cell? ⟨q8, m, none⟩ = some (.bool b) := by
              rw [HB.out.cell]
              obtain rfl | rfl : m = 0 ∨ m = 1 := by omega
              · exact ⟨_, rfl⟩
              · exact ⟨_, rfl⟩
            go_wp2_with fail
            clear hb
            refine (table_any wr b).mono ?_
            rintro e w5 ⟨rfl, hbn⟩
            have HFI5 := Lib.hid (HFI.out.later hbn); have HB5 := Lib.hid (HB.out.later hbn)
            clear hbn HFI HB
            go_wp2_with fail
            refine (key_any w5 hon).mono ?_
            rintro e w6 ⟨rfl, hbn⟩
            have HFI6 := Lib.hid (HFI5.out.later hbn); have HB6 := Lib.hid (HB5.out.later hbn)
            clear hbn HFI5 HB5
            have HTS : Hid (Ths w6 A8 n ys) := by
              obtain ⟨A', C', e, h⟩ := HFI6.out.fi.ths
              injection e with e1 e2 e3
              subst e1
              show Ths _ _ _ _
              rw [← HYN.out]; exact h
            go_wp2_with fail
            refine (find_any w6 lo g es HFI6.out.fi.bk HEL.out (tabD b) (keyD hon) (tabD_ok _) (keyD_ok _) A8 n C8 ys HTS.out (by have := HN2.out; omega)).mono ?_
            rintro e w7 ⟨fi, fj, is, rfl, hF, hbn⟩
            have hnv := FindR_never hF (fun i j => HTW.out (tabD b) i j)
            subst hnv
            have HFI7 := Lib.hid (HFI6.out.later hbn); have HB7 := Lib.hid (HB6.out.later hbn)
            clear hF hbn HFI6 HB6 HTS
            go_wp2_with fail
            go_roundw
            case rel => exact ⟨m + 1, hml, by go_num, HFI7, HB7⟩
            case measure => simp [intOf]; omega
          · have hmm : m = 2 := by omega
            subst hmm
            go_wp2_with fail
            go_ret
            exact ⟨rfl, HFI.out.fi.hb⟩
end Go.Proofs.Ythibihjblodfmaa
