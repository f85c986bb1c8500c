/- How many signed. -/
import Derived.Test.YthibihjblodfmaaN4
import Derived.Test.YthibihjblodfmaaK1
namespace Go.Proofs.Ythibihjblodfmaa
open Go.RowKit Go.Maps

theorem sl_dgl {w : World} {B n b o : Nat} {ls : List (List Int)} (h : Sl w B 8 (some ⟨b, o, none⟩) n (cellsD ls)) (ho : DsOk ls) {k : Nat} {d : List Int} (hk : ls[k]? = some d) : w.rangeAt b (o + k * 8) (dl d) := sl_dg h ho hk
def PcsBy (ps : List Pc) : Prop := ∀ p ∈ ps, ByOk p.bs
/-- How many of the keys signed. -/
def cntB (es : List Ent) (m : List Int) : List (List Int) → List Pc → Nat
  | k :: ks, p :: ps => cntB es m ks ps + (if verB es (k, m) p.bs then 1 else 0)
  | _, _ => 0
theorem cntB_le (es : List Ent) (m : List Int) : ∀ ks ps, cntB es m ks ps ≤ ks.length
  | [], _ => by simp [cntB]
  | k :: ks, [] => by simp [cntB]
  | k :: ks, p :: ps => by have := cntB_le es m ks ps; simp only [cntB, List.length_cons]; split <;> omega
theorem cntB_nil (es : List Ent) (m : List Int) (ks : List (List Int)) : cntB es m ks [] = 0 := by cases ks <;> rfl

/-- What the call through the interface comes to. -/
theorem nil_book (g : Nat) (f : Nat) (w : World) : (nilAhead (f + 1) 49 (.pointer (some ⟨g, 0, none⟩)) "Verify").run Try.prog w = .ok (some false) w := by kernel_rfl
theorem meth_book (g : Nat) (f : Nat) (w : World) : (method (f + 1) 49 (.pointer (some ⟨g, 0, none⟩)) "Verify").run Try.prog w = .ok (29, .pointer (some ⟨g, 0, none⟩)) w := by kernel_rfl
set_option maxRecDepth 20000 in
set_option maxHeartbeats 4000000 in
theorem count_any (w : World) (lo g : Nat) (es : List Ent) (hbk : BookAt w lo g es) (hl : es.length ≤ 65536) (Ak : Option Addr) (n ck : Nat) (ks : List (List Int)) (hk : Sl w w.heap.size 8 Ak n (cellsD ks)) (hko : DsOk ks) (hn : n ≤ 1000000)
    (m : List Int) (hm : DgOk m) (As : Option Addr) (N C : Nat) (ps : List Pc) (hs : Sl w w.heap.size 1 As N (ps.map Pc.v)) (hps : PcsOk w ps) (hpb : PcsBy ps) :
    Calls Try.prog 49 #[.iface 49 (.pointer (some ⟨g, 0, none⟩)), .slice Ak n ck, .agg (dl m).toArray, .slice As N C] w fun e w' => e = .returned (.int .i64 (cntB es m ks ps : Int)) ∧ Below w.heap.size w w' := by
  obtain ⟨Y, hY⟩ : ∃ Y, (dl m).toArray = Y := ⟨_, rfl⟩
  obtain ⟨w1, hw1⟩ : ∃ w1, w.alloc (.cells Y 29) = w1 := ⟨_, rfl⟩
  have hb1 : Below w.heap.size w w1 := hw1 ▸ below_new w _
  have ky : Bk w1 w.heap.size 29 (dl m) := hw1 ▸ Bk.new' w _ Y (by rw [← hY])
  have HW := Lib.hid hw1; have HB1 := Lib.hid hb1; have HY := Lib.hid ky; have HDM := Lib.hid (hdg_size m hm); have HM := Lib.hid hm
  have HBK := Lib.hid (hbk.later hb1); have HKS := Lib.hid (hk.later hb1); have HKO := Lib.hid hko; have HKL := Lib.hid (hk.dgs hko); have HS := Lib.hid (hs.later hb1); have HPS := Lib.hid (hps.later hb1); have HPB := Lib.hid hpb; have HSL := Lib.hid hs.length
  rw [hY]
  clear hY hw1 hb1 ky hbk hk hko hs hps hpb hm
  go_enter Try.func49, Try.ntmps49
  go_upto_region 1 with fail
  rw [HW.out]
  go_wp2_with fail
  go_loopw [9, 16] (fun nv iv wr => ∃ (k c : Nat), k ≤ n ∧ iv = .int .i64 k ∧ nv = .int .i64 c ∧ Hid (c + cntB es m (ks.drop k) (ps.drop k) = cntB es m ks ps) ∧ Hid (Below w1.heap.size w1 wr)) (fun _ iv _ => n - (intOf iv).toNat)
  case atStart => exact ⟨0, 0, Nat.zero_le _, rfl, rfl, by show _ = _; simp, Below.refl _ _⟩
  case round =>
    obtain ⟨k, c, hk, rfl, rfl, HC, HB⟩ := hrel
    have hc0 : c ≤ 1000000 := by have := HC.out; have := cntB_le es m ks ps; have := HKL.out; omega
    by_cases hlt : k < n
    · obtain ⟨b, o, rfl, hbb, _⟩ := HKS.out.spot (by omega) (by omega)
      obtain ⟨x, hx⟩ : ∃ x, ks[k]? = some x := ⟨ks[k]'(by rw [HKL.out]; exact hlt), List.getElem?_eq_getElem _⟩
      have hxo := HKO.out x (List.mem_of_getElem? hx)
      have HR := Lib.hid (sl_dgl (HKS.out.below HB.out) HKO.out hx)
      have HD := Lib.hid (hdg_size x hxo)
      have HX := Lib.hid hx; have HXO := Lib.hid hxo
      have hm1 : (k : Int) < n := by omega
      have hm0 : (0 : Int) ≤ k := by omega
      clear hx hxo
      go_wp2_with (first
        | (with_reducible refine wpList_load_mid rfl 29 _ rfl b (o + k * 8) rfl (dl x) _ HR.out Try.underlying29 rfl HD.out ?_)
        | (with_reducible refine stop_store 29 _ _ rfl ?_))
      refine StopD.go ?_
      obtain ⟨q, hq⟩ : ∃ q, wr.heap.size = q := ⟨_, rfl⟩
      have hbn : Below wr.heap.size wr (wr.alloc (.cells #[.int .u8 0, .int .u8 0, .int .u8 0, .int .u8 0, .int .u8 0, .int .u8 0, .int .u8 0, .int .u8 0] 29)) := below_new wr _
      have kt : Bk (wr.alloc (.cells #[.int .u8 0, .int .u8 0, .int .u8 0, .int .u8 0, .int .u8 0, .int .u8 0, .int .u8 0, .int .u8 0] 29)) q 29 ([] ++ (dl zeroD ++ [])) := by rw [← hq]; exact Bk.new' wr _ #[.int .u8 0, .int .u8 0, .int .u8 0, .int .u8 0, .int .u8 0, .int .u8 0, .int .u8 0, .int .u8 0] rfl
      have hqw : w1.heap.size ≤ q := by rw [← hq]; exact HB.out.size
      rw [hq]
      refine wpList_store_part rfl 29 _ _ rfl q 0 (.agg (dl x).toArray) (dl x) rfl rfl rfl 29 [] (dl zeroD) [] kt rfl (by rw [dl_len, dl_len, HXO.out.len]; rfl) HD.out (dl_one' x) ?_
      intro w5 hp5
      have HX5 : Hid (Bk w5 q 29 (dl x)) := by show Bk _ _ _ _; have := hp5.bk; simpa using this
      have hbn5 : Below wr.heap.size wr w5 := hbn.grown hp5.only hbn.size (fun j hj => by injection hj with hj; omega)
      have HB5 := Lib.hid (HB.out.trans (hbn5.mono HB.out.size))
      clear hp5 kt hq hbn hbn5
      have HY5 := Lib.hid (HY.out.later HB5.out)
      by_cases hkN : k < N
      · obtain ⟨b2, o2, rfl, _, hcc⟩ := HS.out.spot (by omega) (by omega)
        obtain ⟨p, hp⟩ : ∃ p, ps[k]? = some p := ⟨ps[k]'(by rw [HSL.out]; exact hkN), List.getElem?_eq_getElem _⟩
        have HC2 := Lib.hid ((HS.out.below HB5.out).mem (by omega))
        have hcs : w5.cell? ⟨b2, o2 + k, none⟩ = some (.slice p.A p.n p.c) := by
          obtain ⟨ad, e, _, h⟩ := HC2.out
          injection e with e; subst e
          have := h k p.v (by rw [List.getElem?_map, hp]; rfl)
          rwa [add_plain] at this
        have HPP := Lib.hid (((HPS.out p (List.mem_of_getElem? hp)).later HB5.out)); have HPO := Lib.hid (HPB.out p (List.mem_of_getElem? hp))
        have HC' : Hid (c + (cntB es m (ks.drop (k + 1)) (ps.drop (k + 1)) + (if verB es (x, m) p.bs then 1 else 0)) = cntB es m ks ps) := by
          show _ = _; rw [← HC.out, drop_cons HX.out, drop_cons hp, cntB]
        have HCS := Lib.hid hcs
        have hk1 : decide ((k : Int) < N) = true := by simp; omega
        have hkNi : (k : Int) < N := by omega
        clear hcc hp hcs
        go_wp2_with fail
        refine wp_region_held_drew (S := fun w' => Bk w' q 29 (dl x) ∧ Bk w' w.heap.size 29 (dl m) ∧ w'.cell? ⟨b2, o2 + k, none⟩ = some (.slice p.A p.n p.c)) (by kernel_rfl) ⟨Bk.drew HX5.out, Bk.drew HY5.out, HCS.out⟩ (fun hHeld => ?_)
        refine wpAnyH_take (i := 0) (v := ?_) rfl (by kernel_rfl) (by kernel_rfl) (by kernel_rfl) (fun _ _ _ h => h) (Or.inl ⟨by rfl, ?_⟩) (by assumption) ?_
        rotate_left
        · intro w hSw
          (try dsimp only at hSw)
          go_simp
          try with_reducible rfl
        try simp only [Act.put, List.setIfInBounds_toArray, List.set_cons_zero, List.set_cons_succ, List.getElem_toArray, List.getElem_cons_zero]
        refine wpAnyH_take (i := 1) (v := ?_) rfl (by kernel_rfl) (by kernel_rfl) (by kernel_rfl) (fun _ _ _ h => h) (Or.inl ⟨by rfl, ?_⟩) (by assumption) ?_
        rotate_left
        · intro w hSw
          (try dsimp only at hSw)
          go_simp
          try with_reducible rfl
        try simp only [Act.put, List.setIfInBounds_toArray, List.set_cons_zero, List.set_cons_succ, List.getElem_toArray, List.getElem_cons_zero, List.getElem_cons_succ]
        refine wpAnyH_take (i := 2) (v := ?_) rfl (by kernel_rfl) (by kernel_rfl) (by kernel_rfl) (fun _ _ _ h => h) (Or.inl ⟨by rfl, ?_⟩) (by assumption) ?_
        rotate_left
        · intro w hSw
          (try dsimp only at hSw)
          go_simp
          try with_reducible rfl
        try simp only [Act.put, List.setIfInBounds_toArray, List.set_cons_zero, List.set_cons_succ, List.getElem_toArray, List.getElem_cons_zero, List.getElem_cons_succ]
        refine wpAnyH_take (i := 3) (v := ?_) rfl (by kernel_rfl) (by kernel_rfl) (by kernel_rfl) (fun _ _ _ h => h) (Or.inl ⟨by rfl, ?_⟩) (by assumption) ?_
        rotate_left
        · intro w hSw
          (try dsimp only at hSw)
          go_simp
          try with_reducible rfl
        try simp only [Act.put, List.setIfInBounds_toArray, List.set_cons_zero, List.set_cons_succ, List.getElem_toArray, List.getElem_cons_zero, List.getElem_cons_succ]
        refine wpAnyH_take (i := 4) (v := ?_) rfl (by kernel_rfl) (by kernel_rfl) (by kernel_rfl) (fun _ _ _ h => h) (Or.inl ⟨by rfl, ?_⟩) (by assumption) ?_
        rotate_left
        · intro w hSw
          (try dsimp only at hSw)
          go_simp
          try with_reducible rfl
        try simp only [Act.put, List.setIfInBounds_toArray, List.set_cons_zero, List.set_cons_succ, List.getElem_toArray, List.getElem_cons_zero, List.getElem_cons_succ]
        refine wpAnyH_take (i := 5) (v := ?_) rfl (by kernel_rfl) (by kernel_rfl) (by kernel_rfl) (fun _ _ _ h => h) (Or.inl ⟨by rfl, ?_⟩) (by assumption) ?_
        rotate_left
        · intro w hSw
          (try dsimp only at hSw)
          go_simp
          try with_reducible rfl
        try simp only [Act.put, List.setIfInBounds_toArray, List.set_cons_zero, List.set_cons_succ, List.getElem_toArray, List.getElem_cons_zero, List.getElem_cons_succ]
        refine wpAnyH_take (i := 6) (v := .agg (List.toArray (dl x))) rfl (by kernel_rfl) (by kernel_rfl) (by kernel_rfl) (fun _ _ _ h => h) (yieldsIf_load_mid (by rfl) _ _ rfl _ _ rfl (dl x) _ (fun w hSw => (Bk.range (pre := []) (post := []) (by simpa using hSw.1) rfl)) Try.underlying29 rfl (HD.out)) (by assumption) ?_
        try simp only [Act.put, List.setIfInBounds_toArray, List.set_cons_zero, List.set_cons_succ, List.getElem_toArray, List.getElem_cons_zero, List.getElem_cons_succ]
        refine wpAnyH_take (i := 7) (v := .agg (List.toArray (dl m))) rfl (by kernel_rfl) (by kernel_rfl) (by kernel_rfl) (fun _ _ _ h => h) (yieldsIf_load_mid (by rfl) _ _ rfl _ _ rfl (dl m) _ (fun w hSw => (Bk.range (pre := []) (post := []) (by simpa using hSw.2.1) rfl)) Try.underlying29 rfl (HDM.out)) (by assumption) ?_
        try simp only [Act.put, List.setIfInBounds_toArray, List.set_cons_zero, List.set_cons_succ, List.getElem_toArray, List.getElem_cons_zero, List.getElem_cons_succ]
        refine wpAnyH_take (i := 8) (v := ?_) rfl (by kernel_rfl) (by kernel_rfl) (by kernel_rfl) (fun _ _ _ h => h) (Or.inl ⟨by rfl, ?_⟩) (by assumption) ?_
        rotate_left
        · intro w hSw
          (try dsimp only at hSw)
          go_simp
          try with_reducible rfl
        try simp only [Act.put, List.setIfInBounds_toArray, List.set_cons_zero, List.set_cons_succ, List.getElem_toArray, List.getElem_cons_zero, List.getElem_cons_succ]
        refine wpAnyH_take (i := 9) (v := ?_) rfl (by kernel_rfl) (by kernel_rfl) (by kernel_rfl) (fun _ _ _ h => h) (Or.inl ⟨by rfl, ?_⟩) (by assumption) ?_
        rotate_left
        · intro w hSw
          (try dsimp only at hSw)
          go_simp
          try with_reducible rfl
        try simp only [Act.put, List.setIfInBounds_toArray, List.set_cons_zero, List.set_cons_succ, List.getElem_toArray, List.getElem_cons_zero, List.getElem_cons_succ]
        refine wpAnyH_take (i := 10) (v := ?_) rfl (by kernel_rfl) (by kernel_rfl) (by kernel_rfl) (fun _ _ _ h => h) (Or.inl ⟨by rfl, ?_⟩) (by assumption) ?_
        rotate_left
        · intro w hSw
          (try dsimp only at hSw)
          go_simp
          try with_reducible rfl
        try simp only [Act.put, List.setIfInBounds_toArray, List.set_cons_zero, List.set_cons_succ, List.getElem_toArray, List.getElem_cons_zero, List.getElem_cons_succ]
        refine wpAnyH_take (i := 11) (v := ?_) rfl (by kernel_rfl) (by kernel_rfl) (by kernel_rfl) (fun _ _ _ h => h) (Or.inl ⟨by rfl, ?_⟩) (by assumption) ?_
        rotate_left
        · intro w hSw
          have hcell := hSw.2.2
          clear hSw
          go_simp
          try with_reducible rfl
        try simp only [Act.put, List.setIfInBounds_toArray, List.set_cons_zero, List.set_cons_succ, List.getElem_toArray, List.getElem_cons_zero, List.getElem_cons_succ]
        refine wpAnyH_take (i := 12) (v := ?_) rfl (by kernel_rfl) (by kernel_rfl) (by kernel_rfl) (fun _ _ _ h => h) (Or.inl ⟨by rfl, ?_⟩) (by assumption) ?_
        rotate_left
        · intro w hSw
          (try dsimp only at hSw)
          go_simp
          try with_reducible rfl
        try simp only [Act.put, List.setIfInBounds_toArray, List.set_cons_zero, List.set_cons_succ, List.getElem_toArray, List.getElem_cons_zero, List.getElem_cons_succ]
        refine wpAnyH_take (i := 13) (v := ?_) rfl (by kernel_rfl) (by kernel_rfl) (by kernel_rfl) (fun _ _ _ h => h) (Or.inl ⟨by rfl, ?_⟩) (by assumption) ?_
        rotate_left
        · intro w hSw
          have hcell := nil_book g
          clear hSw
          go_simp
          try with_reducible rfl
        try simp only [Act.put, List.setIfInBounds_toArray, List.set_cons_zero, List.set_cons_succ, List.getElem_toArray, List.getElem_cons_zero, List.getElem_cons_succ]
        refine wpAnyH_take (i := 14) (v := ?_) rfl (by kernel_rfl) (by kernel_rfl) (by kernel_rfl) (fun _ _ _ h => h) (Or.inl ⟨by rfl, ?_⟩) (by assumption) ?_
        rotate_left
        · intro w hSw
          (try dsimp only at hSw)
          go_simp
          try with_reducible rfl
        try simp only [Act.put, List.setIfInBounds_toArray, List.set_cons_zero, List.set_cons_succ, List.getElem_toArray, List.getElem_cons_zero, List.getElem_cons_succ]
        obtain ⟨vb, hvb⟩ : ∃ vb, verB es (x, m) p.bs = vb := ⟨_, rfl⟩
        have HVB := Lib.hid hvb
        rw [hvb] at HC'
        clear hvb
        have hmt := meth_book g
        refine wpAnyH_ready (rs := [15]) (by kernel_rfl) (by simp) ?_
        refine AllReadyH.cons rfl (fun K hK => ?_) AllReadyH.nil
        go_simp
        (refine (verify_any w5.drew lo g es (HBK.out.later (HB5.out.trans (below_draws w5 _ 1))) x m HXO.out HM.out hl p.A p.n p.c p.bs HPP.out.drew HPO.out).mono ?_; rw [HVB.out]; rintro e w6 ⟨rfl, hb6⟩; have hb6' := (below_draws w5 w5.heap.size 1).trans hb6; have HB6 := Lib.hid (HB5.out.trans (hb6'.mono HB5.out.size)); have hS6 := And.intro (HX5.out.later hb6') (And.intro (HY5.out.later hb6') ((hb6'.cell (p := ⟨b2, o2 + k, none⟩) (World.block_lt_of_cell? w5 _ HCS.out)).trans HCS.out)); clear hb6 hb6')
        refine hK.out _ _ (hS6) (fun hHeld => ?_)
        clear hK K
        try simp only [Act.put, List.setIfInBounds_toArray, List.set_cons_zero, List.set_cons_succ, List.getElem_toArray, List.getElem_cons_zero, List.getElem_cons_succ]
        refine wpAnyH_take (i := 16) (v := ?_) rfl (by kernel_rfl) (by kernel_rfl) (by kernel_rfl) (fun _ _ _ h => h) (Or.inl ⟨by rfl, ?_⟩) (by assumption) ?_
        rotate_left
        · intro w hSw
          (try dsimp only at hSw)
          go_simp
          try with_reducible rfl
        try simp only [Act.put, List.setIfInBounds_toArray, List.set_cons_zero, List.set_cons_succ, List.getElem_toArray, List.getElem_cons_zero, List.getElem_cons_succ]
        refine wpAnyH_done (by kernel_rfl) ?_ _
        clear hHeld hmt hS6
        cases vb
        · go_wp2_with fail
          go_roundw
          case rel => exact ⟨k + 1, c, by omega, by go_num, rfl, by have := HC'.out; simp at this; show _ = _; exact this, HB6⟩
          case measure => simp [intOf]; omega
        · have hcw : IntKind.i64.wrap ((c : Int) + 1) = ((c + 1 : Nat) : Int) := by rw [IntWalk.i64_in _ (by omega)]; omega
          go_wp2_with fail
          go_roundw
          case rel => exact ⟨k + 1, c + 1, by omega, by go_num, by go_num, by have := HC'.out; simp at this; show _ = _; omega, HB6⟩
          case measure => simp [intOf]; omega
      · have hk1 : decide ((k : Int) < N) = false := by simp; omega
        have hkNi : ¬ ((k : Int) < N) := by omega
        have HC' : Hid (c + cntB es m (ks.drop (k + 1)) (ps.drop (k + 1)) = cntB es m ks ps) := by
          show _ = _
          rw [← HC.out, List.drop_of_length_le (l := ps) (by rw [HSL.out]; omega), List.drop_of_length_le (l := ps) (by rw [HSL.out]; omega), cntB_nil, cntB_nil]
        go_wp2_with fail
        refine wp_region_held_drew (S := fun _ => True) (by kernel_rfl) trivial (fun hHeld => ?_)
        refine wpAnyH_take (i := 0) (v := ?_) rfl (by kernel_rfl) (by kernel_rfl) (by kernel_rfl) (fun _ _ _ h => h) (Or.inl ⟨by rfl, ?_⟩) (by assumption) ?_
        rotate_left
        · intro w hSw
          (try dsimp only at hSw)
          go_simp
          try with_reducible rfl
        try simp only [Act.put, List.setIfInBounds_toArray, List.set_cons_zero, List.set_cons_succ, List.getElem_toArray, List.getElem_cons_zero]
        refine wpAnyH_take (i := 1) (v := ?_) rfl (by kernel_rfl) (by kernel_rfl) (by kernel_rfl) (fun _ _ _ h => h) (Or.inl ⟨by rfl, ?_⟩) (by assumption) ?_
        rotate_left
        · intro w hSw
          (try dsimp only at hSw)
          go_simp
          try with_reducible rfl
        try simp only [Act.put, List.setIfInBounds_toArray, List.set_cons_zero, List.set_cons_succ, List.getElem_toArray, List.getElem_cons_zero, List.getElem_cons_succ]
        refine wpAnyH_take (i := 2) (v := ?_) rfl (by kernel_rfl) (by kernel_rfl) (by kernel_rfl) (fun _ _ _ h => h) (Or.inl ⟨by rfl, ?_⟩) (by assumption) ?_
        rotate_left
        · intro w hSw
          (try dsimp only at hSw)
          go_simp
          try with_reducible rfl
        try simp only [Act.put, List.setIfInBounds_toArray, List.set_cons_zero, List.set_cons_succ, List.getElem_toArray, List.getElem_cons_zero, List.getElem_cons_succ]
        refine wpAnyH_take (i := 3) (v := ?_) rfl (by kernel_rfl) (by kernel_rfl) (by kernel_rfl) (fun _ _ _ h => h) (Or.inl ⟨by rfl, ?_⟩) (by assumption) ?_
        rotate_left
        · intro w hSw
          (try dsimp only at hSw)
          go_simp
          try with_reducible rfl
        try simp only [Act.put, List.setIfInBounds_toArray, List.set_cons_zero, List.set_cons_succ, List.getElem_toArray, List.getElem_cons_zero, List.getElem_cons_succ]
        refine wpAnyH_take (i := 4) (v := ?_) rfl (by kernel_rfl) (by kernel_rfl) (by kernel_rfl) (fun _ _ _ h => h) (Or.inl ⟨by rfl, ?_⟩) (by assumption) ?_
        rotate_left
        · intro w hSw
          (try dsimp only at hSw)
          go_simp
          try with_reducible rfl
        try simp only [Act.put, List.setIfInBounds_toArray, List.set_cons_zero, List.set_cons_succ, List.getElem_toArray, List.getElem_cons_zero, List.getElem_cons_succ]
        refine wpAnyH_take (i := 5) (v := undef) rfl (by kernel_rfl) (by kernel_rfl) (by kernel_rfl) (fun _ _ _ h => h) (Or.inr ⟨by rfl, rfl⟩) (by assumption) ?_
        try simp only [Act.put, List.setIfInBounds_toArray, List.set_cons_zero, List.set_cons_succ, List.getElem_toArray, List.getElem_cons_zero, List.getElem_cons_succ]
        refine wpAnyH_take (i := 6) (v := undef) rfl (by kernel_rfl) (by kernel_rfl) (by kernel_rfl) (fun _ _ _ h => h) (Or.inr ⟨by rfl, rfl⟩) (by assumption) ?_
        try simp only [Act.put, List.setIfInBounds_toArray, List.set_cons_zero, List.set_cons_succ, List.getElem_toArray, List.getElem_cons_zero, List.getElem_cons_succ]
        refine wpAnyH_take (i := 7) (v := undef) rfl (by kernel_rfl) (by kernel_rfl) (by kernel_rfl) (fun _ _ _ h => h) (Or.inr ⟨by rfl, rfl⟩) (by assumption) ?_
        try simp only [Act.put, List.setIfInBounds_toArray, List.set_cons_zero, List.set_cons_succ, List.getElem_toArray, List.getElem_cons_zero, List.getElem_cons_succ]
        refine wpAnyH_take (i := 8) (v := undef) rfl (by kernel_rfl) (by kernel_rfl) (by kernel_rfl) (fun _ _ _ h => h) (Or.inr ⟨by rfl, rfl⟩) (by assumption) ?_
        try simp only [Act.put, List.setIfInBounds_toArray, List.set_cons_zero, List.set_cons_succ, List.getElem_toArray, List.getElem_cons_zero, List.getElem_cons_succ]
        refine wpAnyH_take (i := 9) (v := undef) rfl (by kernel_rfl) (by kernel_rfl) (by kernel_rfl) (fun _ _ _ h => h) (Or.inr ⟨by rfl, rfl⟩) (by assumption) ?_
        try simp only [Act.put, List.setIfInBounds_toArray, List.set_cons_zero, List.set_cons_succ, List.getElem_toArray, List.getElem_cons_zero, List.getElem_cons_succ]
        refine wpAnyH_take (i := 10) (v := undef) rfl (by kernel_rfl) (by kernel_rfl) (by kernel_rfl) (fun _ _ _ h => h) (Or.inr ⟨by rfl, rfl⟩) (by assumption) ?_
        try simp only [Act.put, List.setIfInBounds_toArray, List.set_cons_zero, List.set_cons_succ, List.getElem_toArray, List.getElem_cons_zero, List.getElem_cons_succ]
        refine wpAnyH_take (i := 11) (v := undef) rfl (by kernel_rfl) (by kernel_rfl) (by kernel_rfl) (fun _ _ _ h => h) (Or.inr ⟨by rfl, rfl⟩) (by assumption) ?_
        try simp only [Act.put, List.setIfInBounds_toArray, List.set_cons_zero, List.set_cons_succ, List.getElem_toArray, List.getElem_cons_zero, List.getElem_cons_succ]
        refine wpAnyH_take (i := 12) (v := undef) rfl (by kernel_rfl) (by kernel_rfl) (by kernel_rfl) (fun _ _ _ h => h) (Or.inr ⟨by rfl, rfl⟩) (by assumption) ?_
        try simp only [Act.put, List.setIfInBounds_toArray, List.set_cons_zero, List.set_cons_succ, List.getElem_toArray, List.getElem_cons_zero, List.getElem_cons_succ]
        refine wpAnyH_take (i := 13) (v := undef) rfl (by kernel_rfl) (by kernel_rfl) (by kernel_rfl) (fun _ _ _ h => h) (Or.inr ⟨by rfl, rfl⟩) (by assumption) ?_
        try simp only [Act.put, List.setIfInBounds_toArray, List.set_cons_zero, List.set_cons_succ, List.getElem_toArray, List.getElem_cons_zero, List.getElem_cons_succ]
        refine wpAnyH_take (i := 14) (v := undef) rfl (by kernel_rfl) (by kernel_rfl) (by kernel_rfl) (fun _ _ _ h => h) (Or.inr ⟨by rfl, rfl⟩) (by assumption) ?_
        try simp only [Act.put, List.setIfInBounds_toArray, List.set_cons_zero, List.set_cons_succ, List.getElem_toArray, List.getElem_cons_zero, List.getElem_cons_succ]
        refine wpAnyH_take (i := 15) (v := undef) rfl (by kernel_rfl) (by kernel_rfl) (by kernel_rfl) (fun _ _ _ h => h) (Or.inr ⟨by rfl, rfl⟩) (by assumption) ?_
        try simp only [Act.put, List.setIfInBounds_toArray, List.set_cons_zero, List.set_cons_succ, List.getElem_toArray, List.getElem_cons_zero, List.getElem_cons_succ]
        refine wpAnyH_take (i := 16) (v := ?_) rfl (by kernel_rfl) (by kernel_rfl) (by kernel_rfl) (fun _ _ _ h => h) (Or.inl ⟨by rfl, ?_⟩) (by assumption) ?_
        rotate_left
        · intro w hSw
          (try dsimp only at hSw)
          go_simp
          try with_reducible rfl
        try simp only [Act.put, List.setIfInBounds_toArray, List.set_cons_zero, List.set_cons_succ, List.getElem_toArray, List.getElem_cons_zero, List.getElem_cons_succ]
        refine wpAnyH_done (by kernel_rfl) ?_ _
        clear hHeld
        go_wp2_with fail
        go_roundw
        case rel => exact ⟨k + 1, c, by omega, by go_num, rfl, HC', HB5.out.drew⟩
        case measure => simp [intOf]; omega
    · obtain rfl : k = n := by omega
      have HC' : Hid (cntB es m ks ps = c) := by
        show _ = _; rw [← HC.out, List.drop_of_length_le (by rw [HKL.out]; omega)]; simp [cntB]
      go_wp2_with fail
      go_ret
      exact ⟨by rw [HC'.out]; rfl, below_then HB1.out HB.out⟩
end Go.Proofs.Ythibihjblodfmaa
