/- How many keys are left; a key for a message; the same ring. -/
import Derived.Test.YtakfdlokgddaoaaDoorWA
import Derived.Test.YtakfdlokgddaoaaDoorTG
namespace Go.Proofs.YtakfdlokgddaoaaDoor
set_option linter.unusedSimpArgs false
set_option linter.unusedVariables false
open Go.RowKit Go.Maps

theorem dg_eqw (t t' : List Int) (ht : DgOk t) (ht' : DgOk t') (W : World) : (Op.equalIn 10000 23 (.agg (dl t).toArray) (.agg (dl t').toArray)).run Tryd.prog W = .ok (eqL t t') W := by
  obtain ⟨j, hj, hjs⟩ := Option.map_eq_some_iff.1 (show (Tryd.prog.info? 5).map (·.size) = some 1 by kernel_rfl)
  exact run_equalIn_ints 9998 23 5 8 Tryd.underlying23 Tryd.underlying5 hj hjs t t' ht.len ht'.len W
/-- A ring: its ledger, and the tree of its keys in blocks tlo .. thi. -/
structure RingAt (w : World) (lo g b : Nat) (V : Value) (T : Tr) (tlo thi : Nat) (sec : List Int) (h : Nat) (L : List (List Int)) : Prop where
  led : LedAt w lo g b V sec h (.pointer (some ⟨T.g, 0, none⟩)) L
  tree : TreeOf w tlo thi T (leavesI sec h)
  tl : lo ≤ tlo
  tg : g < tlo ∨ thi ≤ g
  tb : b < tlo ∨ thi ≤ b
  tv : ∀ q, V.ownBlock = some q → q < tlo ∨ thi ≤ q
  hh : h ≤ 8
  hs : DgOk sec
  le : L.length ≤ 2 ^ h
theorem TreeOf.hi_le {w : World} {lo hi : Nat} {T : Tr} {ls : List (List Int)} (t : TreeOf w lo hi T ls) : hi ≤ w.heap.size := by obtain ⟨ns, t, _⟩ := t; exact t.hih
theorem pow_le8 {h : Nat} (hh : h ≤ 8) : 1 ≤ 2 ^ h ∧ 2 ^ h ≤ 256 := ⟨Nat.pos_of_ne_zero (by simp), by have := Nat.pow_le_pow_right (n := 2) (by decide) hh; simpa using this⟩
section
variable {w w' : World} {lo g b : Nat} {V : Value} {T : Tr} {tlo thi : Nat} {sec : List Int} {h : Nat} {L : List (List Int)}
theorem RingAt.later (r : RingAt w lo g b V T tlo thi sec h L) (hb : Below w.heap.size w w') : RingAt w' lo g b V T tlo thi sec h L :=
  ⟨r.led.later hb, r.tree.later hb, r.tl, r.tg, r.tb, r.tv, r.hh, r.hs, r.le⟩
theorem RingAt.led_ok (r : RingAt w lo g b V T tlo thi sec h L) : LedOk (2 ^ h) L := ⟨r.led.ok, r.led.nd, r.le⟩
theorem RingAt.apart (r : RingAt w lo g b V T tlo thi sec h L) {q : Nat} (hq : w.grownBy w' (some q)) (h1 : q ≠ g) (h2 : q ≠ b) (h3 : V.ownBlock ≠ some q) (h4 : q < tlo ∨ thi ≤ q) : RingAt w' lo g b V T tlo thi sec h L :=
  ⟨r.led.apart hq h1 h2 h3, r.tree.keep hq.size fun i h5 h6 => hq.block i (Nat.lt_of_lt_of_le h6 r.tree.hi_le) (by intro e; injection e with e; omega), r.tl, r.tg, r.tb, r.tv, r.hh, r.hs, r.le⟩
theorem RingAt.nlen (r : RingAt w lo g b V T tlo thi sec h L) : L.length ≤ 256 := Nat.le_trans r.le (pow_le8 r.hh).2
end

set_option maxRecDepth 20000 in
theorem kleft_any (w : World) (lo g b : Nat) (V tp : Value) (sec : List Int) (h : Nat) (L : List (List Int)) (hk : LedAt w lo g b V sec h tp L) (hs : DgOk sec) (hh : h ≤ 8) (hl : L.length ≤ 1000) :
    Calls Tryd.prog 11 #[.pointer (some ⟨g, 0, none⟩)] w fun e w' => e = .returned (.int .i64 ((2 ^ h : Nat) - L.length : Int)) ∧ ∃ q, w' = w.drewN q := by
  obtain ⟨A, c, rfl⟩ := own_form hk.row
  have c8 := (rg_mem hs hk.bk).c8
  have c10 := (rg_mem hs hk.bk).c10
  obtain ⟨n, hn⟩ : ∃ n, L.length = n := ⟨_, rfl⟩
  rw [hn] at c10 hl ⊢
  have hp := pow_le8 hh
  obtain ⟨hsh, _⟩ := shl_num h (by omega)
  have hsh2 : IntKind.i64.wrap (2 ^ h) = ((2 ^ h : Nat) : Int) := by
    have e : (2 : Int) ^ h = ((2 ^ h : Nat) : Int) := by norm_cast
    rw [e]; exact IntWalk.i64_in _ (by omega)
  obtain ⟨p, hp2⟩ : ∃ p2, 2 ^ h = p2 := ⟨_, rfl⟩
  rw [hp2] at hsh hsh2 hp ⊢
  have hw : wrap64 ((p : Int) - n) = p - n := IntWalk.wrap64_in _ (by omega)
  have hw2 : IntKind.i64.wrap ((p : Int) - n) = p - n := IntWalk.i64_in _ (by omega)
  have h0 : (0 : Int) ≤ h := by omega
  clear hk hn hs hp2
  go_enter Tryd.func11, Tryd.ntmps11
  go_wp2_with fail
  go_quiet (fail)
  go_wp2_with fail
  go_ret
  exact ⟨rfl, _, rfl⟩

theorem lk_hit {L : List (List Int)} (hok : DsOk L) (hnd : L.Nodup) {m : List Int} (hm : DgOk m) (h : m ∈ L) {b n : Nat} (w : World) (k : LMap w b n L) :
    (Instr.lookup 64 (.map (some b)) (.agg (dl m).toArray) true).run Tryd.prog w = .ok (.tuple #[.int .i64 (L.idxOf m : Int), .bool true]) w := by
  have := led_look k hok hnd hm
  rw [if_pos h, show decide (m ∈ L) = true by simpa using h] at this
  exact this
theorem lk_miss {L : List (List Int)} (hok : DsOk L) (hnd : L.Nodup) {m : List Int} (hm : DgOk m) (h : m ∉ L) {b n : Nat} (w : World) (k : LMap w b n L) :
    (Instr.lookup 64 (.map (some b)) (.agg (dl m).toArray) true).run Tryd.prog w = .ok (.tuple #[.int .i64 0, .bool false]) w := by
  have := led_look k hok hnd hm
  rw [if_neg h, show decide (m ∈ L) = false by simpa using h] at this
  exact this
def resI (cap : Nat) (L : List (List Int)) (m : List Int) : Int := if m ∈ stepL cap L m then ((stepL cap L m).idxOf m : Int) else 0
def resE (cap : Nat) (L : List (List Int)) (m : List Int) : Int := if m ∈ stepL cap L m then 0 else 17
def RetRes (w : World) (lo g b : Nat) (V : Value) (T : Tr) (tlo thi : Nat) (sec : List Int) (h : Nat) (L : List (List Int)) (m : List Int) (e : Ending) (w' : World) : Prop :=
  e = .returned (.tuple #[.int .i64 (resI (2 ^ h) L m), .int .i64 (resE (2 ^ h) L m)]) ∧ ∃ V', RingAt w' lo g b V' T tlo thi sec h (stepL (2 ^ h) L m) ∧ Chg w w' g b V ∧ NewV w V V'
set_option maxRecDepth 20000 in
set_option maxHeartbeats 4000000 in
theorem res_any (w : World) (lo g b : Nat) (V : Value) (T : Tr) (tlo thi : Nat) (sec : List Int) (h : Nat) (L : List (List Int)) (r : RingAt w lo g b V T tlo thi sec h L) (m : List Int) (hm : DgOk m) :
    Calls Tryd.prog 8 #[.pointer (some ⟨g, 0, none⟩), .agg (dl m).toArray] w (RetRes w lo g b V T tlo thi sec h L m) := by
  have HR := Lib.hid r
  have HSO : Hid (DgOk sec) := r.hs
  have HHH : Hid (h ≤ 8) := r.hh
  have hnl := r.nlen
  have HLE : Hid (L.length ≤ 2 ^ h) := r.le
  have HGL : Hid (g < w.heap.size) := r.led.lt
  obtain ⟨X, hX⟩ : ∃ X, (dl m).toArray = X := ⟨_, rfl⟩
  obtain ⟨z, hz⟩ : ∃ z, w.heap.size = z := ⟨_, rfl⟩
  obtain ⟨w1, hw1⟩ : ∃ w1, w.alloc (.cells X 23) = w1 := ⟨_, rfl⟩
  have hb1 : Below w.heap.size w w1 := hw1 ▸ below_new w _
  have kx : Bk w1 z 23 (dl m) := hw1 ▸ Bk.at_ w _ X hz (by rw [← hX])
  have HW := Lib.hid hw1; have HX1 := Lib.hid kx; have HZ := Lib.hid hz; have HMO := Lib.hid hm; have HXE := Lib.hid hX
  have HR1 := Lib.hid (r.later hb1); have HB1 := Lib.hid hb1
  obtain ⟨n, hn⟩ : ∃ n, L.length = n := ⟨_, rfl⟩
  have HN := Lib.hid hn
  have HM1 : Hid (LMap w1 b n L) := by have := HR1.out.led.map; rw [hn] at this; exact this
  rw [hn] at hnl HLE
  rw [hX]
  clear hX hw1 hb1 kx hz hm r hn
  by_cases hmem : m ∈ L
  · have HLK := Lib.hid (lk_hit HR.out.led.ok HR.out.led.nd HMO.out hmem (b := b) (n := n))
    have hst : stepL (2 ^ h) L m = L := by unfold stepL; rw [if_pos hmem]
    have HPI : Hid (resI (2 ^ h) L m = (L.idxOf m : Int)) := by show _ = _; rw [resI, hst, if_pos hmem]
    have HPE : Hid (resE (2 ^ h) L m = 0) := by show _ = _; rw [resE, hst, if_pos hmem]
    have HST := Lib.hid hst
    obtain ⟨I, hI⟩ : ∃ I, L.idxOf m = I := ⟨_, rfl⟩
    rw [hI] at HLK HPI
    clear hmem hst hI
    go_enter Tryd.func8, Tryd.ntmps8
    go_upto_region 1 with fail
    rw [HW.out]
    go_wp2_with fail
    refine wp_region_held_drew (S := fun w' => Bk w' z 23 (dl m) ∧ Bk w' g 67 (rgC sec h (.pointer (some ⟨T.g, 0, none⟩)) V (.map (some b))) ∧ LMap w' b n L) (by kernel_rfl) ⟨Bk.drew HX1.out, Bk.drew HR1.out.led.bk, World.ownsMap.drew HM1.out⟩ (fun hHeld => ?_)
    have hbd : Below w1.heap.size w1 w1.drew := below_draws w1 w1.heap.size 1
    obtain ⟨wa, hwa⟩ : ∃ wa, w1.drew = wa := ⟨_, rfl⟩
    rw [hwa] at hbd hHeld ⊢
    have HXa := Lib.hid (HX1.out.later hbd); have HRa := Lib.hid (HR1.out.later hbd); have HBa := Lib.hid hbd
    clear hwa hbd
    rw [HZ.out]
    refine wpAnyH_take (i := 0) (v := ?_) rfl (by kernel_rfl) (by kernel_rfl) (by kernel_rfl) (fun _ _ _ h => h) (Or.inl ⟨by rfl, ?_⟩) (by assumption) ?_
    rotate_left
    · intro w hSw
      (try dsimp only at hSw)
      go_simp
      try with_reducible rfl
    try simp only [Act.put, List.setIfInBounds_toArray, List.set_cons_zero, List.set_cons_succ, List.getElem_toArray, List.getElem_cons_zero, List.getElem_cons_succ]
    refine wpAnyH_take (i := 1) (v := ?_) rfl (by kernel_rfl) (by kernel_rfl) (by kernel_rfl) (fun _ _ _ h => h) (Or.inl ⟨by rfl, ?_⟩) (by assumption) ?_
    rotate_left
    · intro w hSw
      (try dsimp only at hSw)
      go_simp
      try with_reducible rfl
    try simp only [Act.put, List.setIfInBounds_toArray, List.set_cons_zero, List.set_cons_succ, List.getElem_toArray, List.getElem_cons_zero, List.getElem_cons_succ]
    refine wpAnyH_take (i := 2) (v := ?_) rfl (by kernel_rfl) (by kernel_rfl) (by kernel_rfl) (fun _ _ _ h => h) (Or.inl ⟨by rfl, ?_⟩) (by assumption) ?_
    rotate_left
    · intro w hSw
      (try dsimp only at hSw)
      go_simp
      try with_reducible rfl
    try simp only [Act.put, List.setIfInBounds_toArray, List.set_cons_zero, List.set_cons_succ, List.getElem_toArray, List.getElem_cons_zero, List.getElem_cons_succ]
    refine wpAnyH_take (i := 3) (v := ?_) rfl (by kernel_rfl) (by kernel_rfl) (by kernel_rfl) (fun _ _ _ h => h) (Or.inl ⟨by rfl, ?_⟩) (by assumption) ?_
    rotate_left
    · intro w hSw
      have hcell := (rg_mem HSO.out hSw.2.1).c11
      clear hSw
      go_simp
      try with_reducible rfl
    try simp only [Act.put, List.setIfInBounds_toArray, List.set_cons_zero, List.set_cons_succ, List.getElem_toArray, List.getElem_cons_zero, List.getElem_cons_succ]
    refine wpAnyH_take (i := 4) (v := .agg (List.toArray (dl m))) rfl (by kernel_rfl) (by kernel_rfl) (by kernel_rfl) (fun _ _ _ h => h) (yieldsIf_load_mid (by rfl) _ _ rfl _ _ rfl (dl m) _ (fun w hSw => (Bk.range (pre := []) (post := []) (by simpa using hSw.1) rfl)) Tryd.underlying23 rfl (hdg_size _ HMO.out)) (by assumption) ?_
    try simp only [Act.put, List.setIfInBounds_toArray, List.set_cons_zero, List.set_cons_succ, List.getElem_toArray, List.getElem_cons_zero, List.getElem_cons_succ]
    refine wpAnyH_take (i := 5) (v := ?_) rfl (by kernel_rfl) (by kernel_rfl) (by kernel_rfl) (fun _ _ _ h => h) (Or.inl ⟨by rfl, ?_⟩) (by assumption) ?_
    rotate_left
    · intro w hSw
      have hcell := (HLK.out _ hSw.2.2)
      clear hSw
      go_simp
      try with_reducible rfl
    try simp only [Act.put, List.setIfInBounds_toArray, List.set_cons_zero, List.set_cons_succ, List.getElem_toArray, List.getElem_cons_zero, List.getElem_cons_succ]
    refine wpAnyH_take (i := 6) (v := ?_) rfl (by kernel_rfl) (by kernel_rfl) (by kernel_rfl) (fun _ _ _ h => h) (Or.inl ⟨by rfl, ?_⟩) (by assumption) ?_
    rotate_left
    · intro w hSw
      (try dsimp only at hSw)
      go_simp
      try with_reducible rfl
    try simp only [Act.put, List.setIfInBounds_toArray, List.set_cons_zero, List.set_cons_succ, List.getElem_toArray, List.getElem_cons_zero, List.getElem_cons_succ]
    refine wpAnyH_take (i := 7) (v := ?_) rfl (by kernel_rfl) (by kernel_rfl) (by kernel_rfl) (fun _ _ _ h => h) (Or.inl ⟨by rfl, ?_⟩) (by assumption) ?_
    rotate_left
    · intro w hSw
      (try dsimp only at hSw)
      go_simp
      try with_reducible rfl
    try simp only [Act.put, List.setIfInBounds_toArray, List.set_cons_zero, List.set_cons_succ, List.getElem_toArray, List.getElem_cons_zero, List.getElem_cons_succ]
    refine wpAnyH_take (i := 8) (v := ?_) rfl (by kernel_rfl) (by kernel_rfl) (by kernel_rfl) (fun _ _ _ h => h) (Or.inl ⟨by rfl, ?_⟩) (by assumption) ?_
    rotate_left
    · intro w hSw
      (try dsimp only at hSw)
      go_simp
      try with_reducible rfl
    try simp only [Act.put, List.setIfInBounds_toArray, List.set_cons_zero, List.set_cons_succ, List.getElem_toArray, List.getElem_cons_zero, List.getElem_cons_succ]
    refine wpAnyH_take (i := 9) (v := ?_) rfl (by kernel_rfl) (by kernel_rfl) (by kernel_rfl) (fun _ _ _ h => h) (Or.inl ⟨by rfl, ?_⟩) (by assumption) ?_
    rotate_left
    · intro w hSw
      (try dsimp only at hSw)
      go_simp
      try with_reducible rfl
    try simp only [Act.put, List.setIfInBounds_toArray, List.set_cons_zero, List.set_cons_succ, List.getElem_toArray, List.getElem_cons_zero, List.getElem_cons_succ]
    refine wpAnyH_take (i := 10) (v := ?_) rfl (by kernel_rfl) (by kernel_rfl) (by kernel_rfl) (fun _ _ _ h => h) (Or.inl ⟨by rfl, ?_⟩) (by assumption) ?_
    rotate_left
    · intro w hSw
      (try dsimp only at hSw)
      go_simp
      try with_reducible rfl
    try simp only [Act.put, List.setIfInBounds_toArray, List.set_cons_zero, List.set_cons_succ, List.getElem_toArray, List.getElem_cons_zero, List.getElem_cons_succ]
    refine wpAnyH_done (by kernel_rfl) ?_ _
    clear hHeld HLK
    go_wp2_with fail
    go_ret2
    exact ⟨by rw [HPI.out, HPE.out]; rfl, V, by rw [HST.out]; exact HRa.out, Chg.of_below (below_then HB1.out HBa.out), NewV.refl _ _⟩
  · have HLK := Lib.hid (lk_miss HR.out.led.ok HR.out.led.nd HMO.out hmem (b := b) (n := n))
    have hpl := pow_le8 HHH.out
    by_cases hfull : n = 2 ^ h
    · have hst : stepL (2 ^ h) L m = L := by unfold stepL; rw [if_neg hmem, if_neg (by rw [HN.out]; omega)]
      have HPI : Hid (resI (2 ^ h) L m = 0) := by show _ = _; rw [resI, hst, if_neg hmem]
      have HPE : Hid (resE (2 ^ h) L m = 17) := by show _ = _; rw [resE, hst, if_neg hmem]
      have HST := Lib.hid hst
      have HFU := Lib.hid hfull
      clear hmem hst hfull hpl
      go_enter Tryd.func8, Tryd.ntmps8
      go_upto_region 1 with fail
      rw [HW.out]
      go_wp2_with fail
      refine wp_region_held_drew (S := fun w' => Bk w' z 23 (dl m) ∧ Bk w' g 67 (rgC sec h (.pointer (some ⟨T.g, 0, none⟩)) V (.map (some b))) ∧ LMap w' b n L) (by kernel_rfl) ⟨Bk.drew HX1.out, Bk.drew HR1.out.led.bk, World.ownsMap.drew HM1.out⟩ (fun hHeld => ?_)
      have hbd : Below w1.heap.size w1 w1.drew := below_draws w1 w1.heap.size 1
      obtain ⟨wa, hwa⟩ : ∃ wa, w1.drew = wa := ⟨_, rfl⟩
      rw [hwa] at hbd hHeld ⊢
      have HXa := Lib.hid (HX1.out.later hbd); have HRa := Lib.hid (HR1.out.later hbd); have HBa := Lib.hid hbd
      clear hwa hbd
      rw [HZ.out]
      refine wpAnyH_take (i := 0) (v := ?_) rfl (by kernel_rfl) (by kernel_rfl) (by kernel_rfl) (fun _ _ _ h => h) (Or.inl ⟨by rfl, ?_⟩) (by assumption) ?_
      rotate_left
      · intro w hSw
        (try dsimp only at hSw)
        go_simp
        try with_reducible rfl
      try simp only [Act.put, List.setIfInBounds_toArray, List.set_cons_zero, List.set_cons_succ, List.getElem_toArray, List.getElem_cons_zero, List.getElem_cons_succ]
      refine wpAnyH_take (i := 1) (v := ?_) rfl (by kernel_rfl) (by kernel_rfl) (by kernel_rfl) (fun _ _ _ h => h) (Or.inl ⟨by rfl, ?_⟩) (by assumption) ?_
      rotate_left
      · intro w hSw
        (try dsimp only at hSw)
        go_simp
        try with_reducible rfl
      try simp only [Act.put, List.setIfInBounds_toArray, List.set_cons_zero, List.set_cons_succ, List.getElem_toArray, List.getElem_cons_zero, List.getElem_cons_succ]
      refine wpAnyH_take (i := 2) (v := ?_) rfl (by kernel_rfl) (by kernel_rfl) (by kernel_rfl) (fun _ _ _ h => h) (Or.inl ⟨by rfl, ?_⟩) (by assumption) ?_
      rotate_left
      · intro w hSw
        (try dsimp only at hSw)
        go_simp
        try with_reducible rfl
      try simp only [Act.put, List.setIfInBounds_toArray, List.set_cons_zero, List.set_cons_succ, List.getElem_toArray, List.getElem_cons_zero, List.getElem_cons_succ]
      refine wpAnyH_take (i := 3) (v := ?_) rfl (by kernel_rfl) (by kernel_rfl) (by kernel_rfl) (fun _ _ _ h => h) (Or.inl ⟨by rfl, ?_⟩) (by assumption) ?_
      rotate_left
      · intro w hSw
        have hcell := (rg_mem HSO.out hSw.2.1).c11
        clear hSw
        go_simp
        try with_reducible rfl
      try simp only [Act.put, List.setIfInBounds_toArray, List.set_cons_zero, List.set_cons_succ, List.getElem_toArray, List.getElem_cons_zero, List.getElem_cons_succ]
      refine wpAnyH_take (i := 4) (v := .agg (List.toArray (dl m))) rfl (by kernel_rfl) (by kernel_rfl) (by kernel_rfl) (fun _ _ _ h => h) (yieldsIf_load_mid (by rfl) _ _ rfl _ _ rfl (dl m) _ (fun w hSw => (Bk.range (pre := []) (post := []) (by simpa using hSw.1) rfl)) Tryd.underlying23 rfl (hdg_size _ HMO.out)) (by assumption) ?_
      try simp only [Act.put, List.setIfInBounds_toArray, List.set_cons_zero, List.set_cons_succ, List.getElem_toArray, List.getElem_cons_zero, List.getElem_cons_succ]
      refine wpAnyH_take (i := 5) (v := ?_) rfl (by kernel_rfl) (by kernel_rfl) (by kernel_rfl) (fun _ _ _ h => h) (Or.inl ⟨by rfl, ?_⟩) (by assumption) ?_
      rotate_left
      · intro w hSw
        have hcell := (HLK.out _ hSw.2.2)
        clear hSw
        go_simp
        try with_reducible rfl
      try simp only [Act.put, List.setIfInBounds_toArray, List.set_cons_zero, List.set_cons_succ, List.getElem_toArray, List.getElem_cons_zero, List.getElem_cons_succ]
      refine wpAnyH_take (i := 6) (v := ?_) rfl (by kernel_rfl) (by kernel_rfl) (by kernel_rfl) (fun _ _ _ h => h) (Or.inl ⟨by rfl, ?_⟩) (by assumption) ?_
      rotate_left
      · intro w hSw
        (try dsimp only at hSw)
        go_simp
        try with_reducible rfl
      try simp only [Act.put, List.setIfInBounds_toArray, List.set_cons_zero, List.set_cons_succ, List.getElem_toArray, List.getElem_cons_zero, List.getElem_cons_succ]
      refine wpAnyH_take (i := 7) (v := ?_) rfl (by kernel_rfl) (by kernel_rfl) (by kernel_rfl) (fun _ _ _ h => h) (Or.inl ⟨by rfl, ?_⟩) (by assumption) ?_
      rotate_left
      · intro w hSw
        (try dsimp only at hSw)
        go_simp
        try with_reducible rfl
      try simp only [Act.put, List.setIfInBounds_toArray, List.set_cons_zero, List.set_cons_succ, List.getElem_toArray, List.getElem_cons_zero, List.getElem_cons_succ]
      refine wpAnyH_take (i := 8) (v := ?_) rfl (by kernel_rfl) (by kernel_rfl) (by kernel_rfl) (fun _ _ _ h => h) (Or.inl ⟨by rfl, ?_⟩) (by assumption) ?_
      rotate_left
      · intro w hSw
        (try dsimp only at hSw)
        go_simp
        try with_reducible rfl
      try simp only [Act.put, List.setIfInBounds_toArray, List.set_cons_zero, List.set_cons_succ, List.getElem_toArray, List.getElem_cons_zero, List.getElem_cons_succ]
      refine wpAnyH_take (i := 9) (v := ?_) rfl (by kernel_rfl) (by kernel_rfl) (by kernel_rfl) (fun _ _ _ h => h) (Or.inl ⟨by rfl, ?_⟩) (by assumption) ?_
      rotate_left
      · intro w hSw
        (try dsimp only at hSw)
        go_simp
        try with_reducible rfl
      try simp only [Act.put, List.setIfInBounds_toArray, List.set_cons_zero, List.set_cons_succ, List.getElem_toArray, List.getElem_cons_zero, List.getElem_cons_succ]
      refine wpAnyH_take (i := 10) (v := ?_) rfl (by kernel_rfl) (by kernel_rfl) (by kernel_rfl) (fun _ _ _ h => h) (Or.inl ⟨by rfl, ?_⟩) (by assumption) ?_
      rotate_left
      · intro w hSw
        (try dsimp only at hSw)
        go_simp
        try with_reducible rfl
      try simp only [Act.put, List.setIfInBounds_toArray, List.set_cons_zero, List.set_cons_succ, List.getElem_toArray, List.getElem_cons_zero, List.getElem_cons_succ]
      refine wpAnyH_done (by kernel_rfl) ?_ _
      clear hHeld HLK
      go_wp2_with fail
      refine (kleft_any wa lo g b V _ sec h L HRa.out.led HSO.out HHH.out (by rw [HN.out]; omega)).mono ?_
      rintro e wb ⟨rfl, q, rfl⟩
      have hp0 : ((2 ^ h : Nat) : Int) - L.length = 0 := by rw [HN.out, HFU.out]; omega
      rw [hp0]
      clear hp0
      go_wp2_with fail
      go_ret2
      have hbq := below_draws wa wa.heap.size q
      exact ⟨by rw [HPI.out, HPE.out]; rfl, V, by rw [HST.out]; exact HRa.out.later hbq, Chg.of_below (below_then (below_then HB1.out HBa.out) hbq), NewV.refl _ _⟩
    · have hst : stepL (2 ^ h) L m = L ++ [m] := by unfold stepL; rw [if_neg hmem, if_pos (by have := HLE.out; rw [HN.out]; omega)]
      have hmem' : m ∈ L ++ [m] := by simp
      have HPI : Hid (resI (2 ^ h) L m = (L.length : Int)) := by show _ = _; rw [resI, hst, if_pos hmem', List.idxOf_append, if_neg hmem]; simp
      have HPE : Hid (resE (2 ^ h) L m = 0) := by show _ = _; rw [resE, hst, if_pos hmem']
      have HST := Lib.hid hst
      have HNE : Hid (n < 2 ^ h) := by have := HLE.out; show n < _; omega
      have HMN := Lib.hid hmem
      clear hmem hst hfull hpl hmem'
      go_enter Tryd.func8, Tryd.ntmps8
      go_upto_region 1 with fail
      rw [HW.out]
      go_wp2_with fail
      refine wp_region_held_drew (S := fun w' => Bk w' z 23 (dl m) ∧ Bk w' g 67 (rgC sec h (.pointer (some ⟨T.g, 0, none⟩)) V (.map (some b))) ∧ LMap w' b n L) (by kernel_rfl) ⟨Bk.drew HX1.out, Bk.drew HR1.out.led.bk, World.ownsMap.drew HM1.out⟩ (fun hHeld => ?_)
      have hbd : Below w1.heap.size w1 w1.drew := below_draws w1 w1.heap.size 1
      obtain ⟨wa, hwa⟩ : ∃ wa, w1.drew = wa := ⟨_, rfl⟩
      rw [hwa] at hbd hHeld ⊢
      have HXa := Lib.hid (HX1.out.later hbd); have HRa := Lib.hid (HR1.out.later hbd); have HBa := Lib.hid hbd
      clear hwa hbd
      rw [HZ.out]
      refine wpAnyH_take (i := 0) (v := ?_) rfl (by kernel_rfl) (by kernel_rfl) (by kernel_rfl) (fun _ _ _ h => h) (Or.inl ⟨by rfl, ?_⟩) (by assumption) ?_
      rotate_left
      · intro w hSw
        (try dsimp only at hSw)
        go_simp
        try with_reducible rfl
      try simp only [Act.put, List.setIfInBounds_toArray, List.set_cons_zero, List.set_cons_succ, List.getElem_toArray, List.getElem_cons_zero, List.getElem_cons_succ]
      refine wpAnyH_take (i := 1) (v := ?_) rfl (by kernel_rfl) (by kernel_rfl) (by kernel_rfl) (fun _ _ _ h => h) (Or.inl ⟨by rfl, ?_⟩) (by assumption) ?_
      rotate_left
      · intro w hSw
        (try dsimp only at hSw)
        go_simp
        try with_reducible rfl
      try simp only [Act.put, List.setIfInBounds_toArray, List.set_cons_zero, List.set_cons_succ, List.getElem_toArray, List.getElem_cons_zero, List.getElem_cons_succ]
      refine wpAnyH_take (i := 2) (v := ?_) rfl (by kernel_rfl) (by kernel_rfl) (by kernel_rfl) (fun _ _ _ h => h) (Or.inl ⟨by rfl, ?_⟩) (by assumption) ?_
      rotate_left
      · intro w hSw
        (try dsimp only at hSw)
        go_simp
        try with_reducible rfl
      try simp only [Act.put, List.setIfInBounds_toArray, List.set_cons_zero, List.set_cons_succ, List.getElem_toArray, List.getElem_cons_zero, List.getElem_cons_succ]
      refine wpAnyH_take (i := 3) (v := ?_) rfl (by kernel_rfl) (by kernel_rfl) (by kernel_rfl) (fun _ _ _ h => h) (Or.inl ⟨by rfl, ?_⟩) (by assumption) ?_
      rotate_left
      · intro w hSw
        have hcell := (rg_mem HSO.out hSw.2.1).c11
        clear hSw
        go_simp
        try with_reducible rfl
      try simp only [Act.put, List.setIfInBounds_toArray, List.set_cons_zero, List.set_cons_succ, List.getElem_toArray, List.getElem_cons_zero, List.getElem_cons_succ]
      refine wpAnyH_take (i := 4) (v := .agg (List.toArray (dl m))) rfl (by kernel_rfl) (by kernel_rfl) (by kernel_rfl) (fun _ _ _ h => h) (yieldsIf_load_mid (by rfl) _ _ rfl _ _ rfl (dl m) _ (fun w hSw => (Bk.range (pre := []) (post := []) (by simpa using hSw.1) rfl)) Tryd.underlying23 rfl (hdg_size _ HMO.out)) (by assumption) ?_
      try simp only [Act.put, List.setIfInBounds_toArray, List.set_cons_zero, List.set_cons_succ, List.getElem_toArray, List.getElem_cons_zero, List.getElem_cons_succ]
      refine wpAnyH_take (i := 5) (v := ?_) rfl (by kernel_rfl) (by kernel_rfl) (by kernel_rfl) (fun _ _ _ h => h) (Or.inl ⟨by rfl, ?_⟩) (by assumption) ?_
      rotate_left
      · intro w hSw
        have hcell := (HLK.out _ hSw.2.2)
        clear hSw
        go_simp
        try with_reducible rfl
      try simp only [Act.put, List.setIfInBounds_toArray, List.set_cons_zero, List.set_cons_succ, List.getElem_toArray, List.getElem_cons_zero, List.getElem_cons_succ]
      refine wpAnyH_take (i := 6) (v := ?_) rfl (by kernel_rfl) (by kernel_rfl) (by kernel_rfl) (fun _ _ _ h => h) (Or.inl ⟨by rfl, ?_⟩) (by assumption) ?_
      rotate_left
      · intro w hSw
        (try dsimp only at hSw)
        go_simp
        try with_reducible rfl
      try simp only [Act.put, List.setIfInBounds_toArray, List.set_cons_zero, List.set_cons_succ, List.getElem_toArray, List.getElem_cons_zero, List.getElem_cons_succ]
      refine wpAnyH_take (i := 7) (v := ?_) rfl (by kernel_rfl) (by kernel_rfl) (by kernel_rfl) (fun _ _ _ h => h) (Or.inl ⟨by rfl, ?_⟩) (by assumption) ?_
      rotate_left
      · intro w hSw
        (try dsimp only at hSw)
        go_simp
        try with_reducible rfl
      try simp only [Act.put, List.setIfInBounds_toArray, List.set_cons_zero, List.set_cons_succ, List.getElem_toArray, List.getElem_cons_zero, List.getElem_cons_succ]
      refine wpAnyH_take (i := 8) (v := ?_) rfl (by kernel_rfl) (by kernel_rfl) (by kernel_rfl) (fun _ _ _ h => h) (Or.inl ⟨by rfl, ?_⟩) (by assumption) ?_
      rotate_left
      · intro w hSw
        (try dsimp only at hSw)
        go_simp
        try with_reducible rfl
      try simp only [Act.put, List.setIfInBounds_toArray, List.set_cons_zero, List.set_cons_succ, List.getElem_toArray, List.getElem_cons_zero, List.getElem_cons_succ]
      refine wpAnyH_take (i := 9) (v := ?_) rfl (by kernel_rfl) (by kernel_rfl) (by kernel_rfl) (fun _ _ _ h => h) (Or.inl ⟨by rfl, ?_⟩) (by assumption) ?_
      rotate_left
      · intro w hSw
        (try dsimp only at hSw)
        go_simp
        try with_reducible rfl
      try simp only [Act.put, List.setIfInBounds_toArray, List.set_cons_zero, List.set_cons_succ, List.getElem_toArray, List.getElem_cons_zero, List.getElem_cons_succ]
      refine wpAnyH_take (i := 10) (v := ?_) rfl (by kernel_rfl) (by kernel_rfl) (by kernel_rfl) (fun _ _ _ h => h) (Or.inl ⟨by rfl, ?_⟩) (by assumption) ?_
      rotate_left
      · intro w hSw
        (try dsimp only at hSw)
        go_simp
        try with_reducible rfl
      try simp only [Act.put, List.setIfInBounds_toArray, List.set_cons_zero, List.set_cons_succ, List.getElem_toArray, List.getElem_cons_zero, List.getElem_cons_succ]
      refine wpAnyH_done (by kernel_rfl) ?_ _
      clear hHeld HLK
      go_wp2_with fail
      refine (kleft_any wa lo g b V _ sec h L HRa.out.led HSO.out HHH.out (by rw [HN.out]; omega)).mono ?_
      rintro e wb ⟨rfl, q, hq⟩
      have hbq : Below wa.heap.size wa wb := hq ▸ below_draws wa wa.heap.size q
      obtain ⟨p, hp⟩ : ∃ p, ((2 ^ h : Nat) : Int) - L.length = p := ⟨_, rfl⟩
      rw [hp]
      have hp0 : ¬ p = 0 := by have := HNE.out; have := HN.out; omega
      have hp1 : decide (p = 0) = false := by simpa using hp0
      have hp2 : (p == 0) = false := by simpa using hp0
      have HXb := Lib.hid (HXa.out.later hbq); have HRb := Lib.hid (HRa.out.later hbq); have HBb := Lib.hid (below_then (below_then HB1.out HBa.out) hbq)
      clear hp hq hbq
      go_wp2_with (with_reducible refine wpList_load_bk rfl 23 _ rfl z rfl (dl m) 23 HXb.out _ Tryd.underlying23 rfl (hdg_size _ HMO.out) ?_)
      refine (take_anyW wb lo g b V _ sec h L HRb.out.led HSO.out m HMO.out HMN.out (by rw [HN.out]; omega)).mono ?_
      rintro e wc ⟨rfl, V', hk, hc, hv⟩
      have HKc := Lib.hid hk; have HCc := Lib.hid hc; have HVc := Lib.hid hv
      clear hk hc hv hp0 hp1 hp2
      go_wp2_with fail
      go_ret2
      refine ⟨by rw [HPI.out, HPE.out]; rfl, V', ?_, Chg.after_below HBb.out HCc.out, ?_⟩
      · rw [HST.out]
        have hr := HRb.out
        refine ⟨HKc.out, hr.tree.keep HCc.out.size fun i h5 h6 => HCc.out.blk i (Nat.lt_of_lt_of_le h6 hr.tree.hi_le) (fun e => by have := hr.tg; omega) (fun e => by have := hr.tb; omega) (fun e => by have := hr.tv i e; omega), hr.tl, hr.tg, hr.tb, ?_, hr.hh, hr.hs, ?_⟩
        · intro q hq
          rcases HVc.out with hv | hv
          · exact hr.tv q (hv ▸ hq)
          · right; exact Nat.le_trans hr.tree.hi_le (hv q hq)
        · rw [List.length_append, HN.out]; have := HNE.out; simp; omega
      · rcases HVc.out with hv | hv
        · exact .inl hv
        · exact .inr fun q hq => Nat.le_trans HBb.out.size (hv q hq)
end Go.Proofs.YtakfdlokgddaoaaDoor
