/- Locks that are the same: both say so; a lock's bytes, or why there are none. -/
import Derived.Test.YtbclfjdamklbpaaLO
namespace Go.Proofs.Ytbclfjdamklbpaa
set_option linter.unusedSimpArgs false
set_option linter.unusedVariables false
open Go.RowKit Go.Maps

theorem sl_key {w wk : World} {n : Nat} {A : Option Addr} {ks : List (List Int)} (h : Sl w w.heap.size 8 A n (cellsD ks)) (ho : DsOk ks) (hb : Below w.heap.size w wk) {i : Nat} (hi : i < n) : ∃ b o x, A = some ⟨b, o, none⟩ ∧ b < w.heap.size ∧ ks[i]? = some x ∧ DgOk x ∧ wk.rangeAt b (o + i * 8) (dl x) := by
  have hl : ks.length = n := h.dgs ho
  obtain ⟨b, o, rfl, hbl, _⟩ := h.spot (by omega) (by omega)
  obtain ⟨x, hx⟩ : ∃ x, ks[i]? = some x := ⟨ks[i]'(by omega), List.getElem?_eq_getElem _⟩
  exact ⟨b, o, x, rfl, hbl, hx, ho x (List.mem_of_getElem? hx), rng_later (sl_dgl h ho hx) hb hbl⟩
set_option maxRecDepth 20000 in
set_option maxHeartbeats 2000000 in
theorem eqSame_any (w : World) (A A' : Option Addr) (n c c' : Nat) (ks : List (List Int)) (ho : DsOk ks) (hs : Sl w w.heap.size 8 A n (cellsD ks)) (hs' : Sl w w.heap.size 8 A' n (cellsD ks)) (hn : n ≤ 1000) :
    Calls Try.prog 68 #[.slice A n c, .slice A' n c'] w fun e w' => e = .returned (.bool true) ∧ Below w.heap.size w w' := by
  have HS := Lib.hid hs; have HS' := Lib.hid hs'; have HO := Lib.hid ho
  clear hs hs' ho
  go_enter Try.func68, Try.ntmps68
  go_wp2_with fail
  go_loopw [13] (fun is wr => ∃ (i : Nat), i ≤ n ∧ is = .int .i64 i ∧ Hid (Below w.heap.size w wr)) (fun is _ => n - (intOf is).toNat)
  case atStart => exact ⟨0, Nat.zero_le _, rfl, Below.refl _ _⟩
  case round =>
    obtain ⟨i, hi, rfl, HB⟩ := hrel
    by_cases hlt : i < n
    · have hi1 : (i : Int) < n := by omega
      have hi0 : (0 : Int) ≤ i := by omega
      obtain ⟨b, o, x, rfl, hbl, hx, hxo, hrg⟩ := sl_key HS.out HO.out HB.out hlt
      obtain ⟨b', o', x', rfl, hbl', hx', hxo', hrg'⟩ := sl_key HS'.out HO.out HB.out hlt
      rw [hx] at hx'
      injection hx' with hx'
      subst hx'
      have HR := Lib.hid hrg; have HR' := Lib.hid hrg'; have HXS := Lib.hid (hdg_size _ hxo)
      have HBL : Hid (b < wr.heap.size ∧ b' < wr.heap.size) := by show _ ∧ _; have := HB.out.size; omega
      have hkr := dg_eq_run x x hxo hxo
      rw [show eqL x x = true by simp [eqL]] at hkr
      clear hrg hrg' hx hxo hxo' hbl hbl'
      go_upto_region 6 with fail
      have hbd : Below wr.heap.size wr wr.drew := below_draws wr wr.heap.size 1
      refine wp_region_held_drew (S := fun w' => w'.rangeAt b (o + i * 8) (dl x) ∧ w'.rangeAt b' (o' + i * 8) (dl x)) (by kernel_rfl) ⟨rng_later HR.out hbd HBL.out.1, rng_later HR'.out hbd HBL.out.2⟩ (fun hHeld => ?_)
      have HBd := Lib.hid (below_then HB.out hbd)
      clear hbd
      refine wpAnyH_take (i := 0) (v := ?_) rfl (by kernel_rfl) (by kernel_rfl) (by kernel_rfl) (fun _ _ _ h => h) (Or.inl ⟨by rfl, ?_⟩) (by assumption) ?_
      rotate_left
      · intro w hSw
        (try dsimp only at hSw)
        go_simp
        try with_reducible rfl
      try simp only [Act.put, List.setIfInBounds_toArray, List.set_cons_zero, List.set_cons_succ, List.getElem_toArray, List.getElem_cons_zero, List.getElem_cons_succ]
      refine wpAnyH_take (i := 1) (v := ?_) rfl (by kernel_rfl) (by kernel_rfl) (by kernel_rfl) (fun _ _ _ h => h) (Or.inl ⟨by rfl, ?_⟩) (by assumption) ?_
      rotate_left
      · intro w hSw
        (try dsimp only at hSw)
        go_simp
        try with_reducible rfl
      try simp only [Act.put, List.setIfInBounds_toArray, List.set_cons_zero, List.set_cons_succ, List.getElem_toArray, List.getElem_cons_zero, List.getElem_cons_succ]
      refine wpAnyH_take (i := 4) (v := ?_) rfl (by kernel_rfl) (by kernel_rfl) (by kernel_rfl) (fun _ _ _ h => h) (Or.inl ⟨by rfl, ?_⟩) (by assumption) ?_
      rotate_left
      · intro w hSw
        (try dsimp only at hSw)
        go_simp
        try with_reducible rfl
      try simp only [Act.put, List.setIfInBounds_toArray, List.set_cons_zero, List.set_cons_succ, List.getElem_toArray, List.getElem_cons_zero, List.getElem_cons_succ]
      refine wpAnyH_take (i := 5) (v := ?_) rfl (by kernel_rfl) (by kernel_rfl) (by kernel_rfl) (fun _ _ _ h => h) (Or.inl ⟨by rfl, ?_⟩) (by assumption) ?_
      rotate_left
      · intro w hSw
        (try dsimp only at hSw)
        go_simp
        try with_reducible rfl
      try simp only [Act.put, List.setIfInBounds_toArray, List.set_cons_zero, List.set_cons_succ, List.getElem_toArray, List.getElem_cons_zero, List.getElem_cons_succ]
      refine wpAnyH_take (i := 2) (v := ?_) rfl (by kernel_rfl) (by kernel_rfl) (by kernel_rfl) (fun _ _ _ h => h) (Or.inl ⟨by rfl, ?_⟩) (by assumption) ?_
      rotate_left
      · intro w hSw
        (try dsimp only at hSw)
        go_simp
        try with_reducible rfl
      try simp only [Act.put, List.setIfInBounds_toArray, List.set_cons_zero, List.set_cons_succ, List.getElem_toArray, List.getElem_cons_zero, List.getElem_cons_succ]
      refine wpAnyH_take (i := 6) (v := ?_) rfl (by kernel_rfl) (by kernel_rfl) (by kernel_rfl) (fun _ _ _ h => h) (Or.inl ⟨by rfl, ?_⟩) (by assumption) ?_
      rotate_left
      · intro w hSw
        (try dsimp only at hSw)
        go_simp
        try with_reducible rfl
      try simp only [Act.put, List.setIfInBounds_toArray, List.set_cons_zero, List.set_cons_succ, List.getElem_toArray, List.getElem_cons_zero, List.getElem_cons_succ]
      refine wpAnyH_take (i := 3) (v := .agg (List.toArray (dl x))) rfl (by kernel_rfl) (by kernel_rfl) (by kernel_rfl) (fun _ _ _ h => h) (yieldsIf_load_mid (by rfl) _ _ rfl _ _ rfl (dl x) _ (fun w hSw => hSw.1) Try.underlying23 rfl (HXS.out)) (by assumption) ?_
      try simp only [Act.put, List.setIfInBounds_toArray, List.set_cons_zero, List.set_cons_succ, List.getElem_toArray, List.getElem_cons_zero, List.getElem_cons_succ]
      refine wpAnyH_take (i := 7) (v := .agg (List.toArray (dl x))) rfl (by kernel_rfl) (by kernel_rfl) (by kernel_rfl) (fun _ _ _ h => h) (yieldsIf_load_mid (by rfl) _ _ rfl _ _ rfl (dl x) _ (fun w hSw => hSw.2) Try.underlying23 rfl (HXS.out)) (by assumption) ?_
      try simp only [Act.put, List.setIfInBounds_toArray, List.set_cons_zero, List.set_cons_succ, List.getElem_toArray, List.getElem_cons_zero, List.getElem_cons_succ]
      refine wpAnyH_take (i := 8) (v := ?_) rfl (by kernel_rfl) (by kernel_rfl) (by kernel_rfl) (fun _ _ _ h => h) (Or.inl ⟨by rfl, ?_⟩) (by assumption) ?_
      rotate_left
      · intro w hSw
        (try dsimp only at hSw)
        go_simp
        try with_reducible rfl
      try simp only [Act.put, List.setIfInBounds_toArray, List.set_cons_zero, List.set_cons_succ, List.getElem_toArray, List.getElem_cons_zero, List.getElem_cons_succ]
      refine wpAnyH_done (by kernel_rfl) ?_ _
      clear hHeld hkr
      go_wp2_with fail
      go_roundw
      case rel => exact ⟨i + 1, hlt, by go_num, HBd⟩
      case measure => simp [intOf] <;> omega
    · have hi1 : ¬ ((i : Int) < n) := by omega
      obtain rfl : i = n := by omega
      go_wp2_with fail
      go_ret
      exact ⟨rfl, HB.out⟩
set_option maxRecDepth 20000 in
set_option maxHeartbeats 4000000 in
theorem rlsame_any (w : World) (L : LkT) (A B : Option Addr) (N C D : Nat) (hk : LkK w L A N) (hk' : LkK w L B N) :
    Calls Try.prog 30 #[.agg (lkC L (.slice A N C)).toArray, .agg (lkC L (.slice B N D)).toArray] w fun e w' => e = .returned (.bool true) ∧ Below w.heap.size w w' := by
  have hN := hk.n
  have hkr := rdg_eq_run L.h L.h hk.h hk.h
  rw [show eqL L.h L.h = true by simp [eqL]] at hkr
  have HRS : Hid ((Try.prog.info? 22).map (·.size) = some (dl L.h).length) := by show _ = _; rw [dl_len, hk.h.len]; kernel_rfl
  obtain ⟨l, hl⟩ : ∃ x, lkC L (.slice A N C) = x := ⟨_, rfl⟩
  obtain ⟨X, hX⟩ : ∃ X, l.toArray = X := ⟨_, rfl⟩
  obtain ⟨l2, hl2⟩ : ∃ x, lkC L (.slice B N D) = x := ⟨_, rfl⟩
  obtain ⟨Y, hY⟩ : ∃ X, l2.toArray = X := ⟨_, rfl⟩
  obtain ⟨z, hz⟩ : ∃ z, w.heap.size = z := ⟨_, rfl⟩
  obtain ⟨w1, hw1⟩ : ∃ w1, (w.alloc (.cells X 44)).alloc (.cells Y 44) = w1 := ⟨_, rfl⟩
  have hb1 : Below w.heap.size w w1 := hw1 ▸ (below_new w _).alloc (by simp) _
  have kx : Bk w1 z 44 l := hw1 ▸ (Bk.at_ w _ X hz (by rw [← hX])).alloc _
  have ky : Bk w1 (z + 1) 44 l2 := hw1 ▸ Bk.at_ _ _ Y (by simp [hz]) (by rw [← hY])
  have hh : DgOk L.h := hk.h
  have HLM : Hid (∀ w' g', Bk w' g' 44 l → LkM w' g' L (.slice A N C)) := fun w' g' h' => by rw [← hl] at h'; exact lk_mem hh h'
  have HLM2 : Hid (∀ w' g', Bk w' g' 44 l2 → LkM w' g' L (.slice B N D)) := fun w' g' h' => by rw [← hl2] at h'; exact lk_mem hh h'
  have HW := Lib.hid hw1; have HB1 := Lib.hid hb1; have HX1 := Lib.hid kx; have HY1 := Lib.hid ky; have HHO := Lib.hid hh; have HZ := Lib.hid hz; have HK := Lib.hid hk; have HK2 := Lib.hid hk'
  rw [hl, hX, hl2, hY]
  clear hl hX hl2 hY hw1 hb1 kx ky hh hz
  obtain ⟨c0, r1, c9, c10, c11, c12⟩ := HLM.out _ _ HX1.out
  obtain ⟨d0, q1, d9, d10, d11, d12⟩ := HLM2.out _ _ HY1.out
  have HR1 := Lib.hid r1; have HQ1 := Lib.hid q1; have HHS := Lib.hid (hdg_size _ HHO.out)
  clear r1 q1
  clear hk hk'
  go_enter Try.func30, Try.ntmps30
  go_upto_region 1 with fail
  rw [HW.out, HZ.out]
  go_wp2_with (first
    | ((with_reducible refine wpList_load_midG ?_ 22 _ rfl z 1 rfl (dl L.h) _ HR1.out Try.underlying22 rfl HRS.out ?_); rfl)
    | ((with_reducible refine wpList_load_midG ?_ 22 _ rfl (z + 1) 1 rfl (dl L.h) _ HQ1.out Try.underlying22 rfl HRS.out ?_); rfl))
  clear hkr c0 c9 c10 c11 c12 d0 d9 d10 d11 d12
  go_loopw [5] (fun is wr => ∃ (i : Nat), i ≤ N ∧ is = .int .i64 i ∧ Hid (Bk wr z 44 l) ∧ Hid (Bk wr (z + 1) 44 l2) ∧ Hid (Below w.heap.size w wr)) (fun is _ => N - (intOf is).toNat)
  case atStart => exact ⟨0, Nat.zero_le _, rfl, HX1, HY1, HB1⟩
  case round =>
    clear HX1 HY1 HB1
    obtain ⟨i, hi, rfl, HX, HY, HB⟩ := hrel
    have c9 := (HLM.out _ _ HX.out).c9
    by_cases hlt : i < N
    · have hi1 : (i : Int) < N := by omega
      have hi0 : (0 : Int) ≤ i := by omega
      obtain ⟨b, o, x, rfl, hbl, hx, hxo, hrg⟩ := sl_key HK.out.k HK.out.ko HB.out hlt
      obtain ⟨b', o', x', rfl, hbl', hx', hxo', hrg'⟩ := sl_key HK2.out.k HK.out.ko HB.out hlt
      rw [hx] at hx'
      injection hx' with hx'
      subst hx'
      have HR := Lib.hid hrg; have HR' := Lib.hid hrg'
      have HXS : Hid ((Try.prog.info? 22).map (·.size) = some (dl x).length) := by show _ = _; rw [dl_len, hxo.len]; kernel_rfl
      have HBL : Hid (b < wr.heap.size ∧ b' < wr.heap.size) := by show _ ∧ _; have := HB.out.size; omega
      have hkr := rdg_eq_run x x hxo hxo
      rw [show eqL x x = true by simp [eqL]] at hkr
      clear hrg hrg' hx hxo hxo' hbl hbl'
      go_upto_region 6 with fail
      clear c9
      have hbd : Below wr.heap.size wr wr.drew := below_draws wr wr.heap.size 1
      refine wp_region_held_drew (S := fun w' => (w'.rangeAt b (o + i * 8) (dl x) ∧ w'.rangeAt b' (o' + i * 8) (dl x)) ∧ Bk w' z 44 l ∧ Bk w' (z + 1) 44 l2) (by kernel_rfl) ⟨⟨rng_later HR.out hbd HBL.out.1, rng_later HR'.out hbd HBL.out.2⟩, HX.out.later hbd, HY.out.later hbd⟩ (fun hHeld => ?_)
      have HBd := Lib.hid (below_then HB.out hbd); have HXd := Lib.hid (HX.out.later hbd); have HYd := Lib.hid (HY.out.later hbd)
      clear hbd
      refine wpAnyH_take (i := 0) (v := ?_) rfl (by kernel_rfl) (by kernel_rfl) (by kernel_rfl) (fun _ _ _ h => h) (Or.inl ⟨by rfl, ?_⟩) (by assumption) ?_
      rotate_left
      · intro w hSw
        (try dsimp only at hSw)
        go_simp
        try with_reducible rfl
      try simp only [Act.put, List.setIfInBounds_toArray, List.set_cons_zero, List.set_cons_succ, List.getElem_toArray, List.getElem_cons_zero, List.getElem_cons_succ]
      refine wpAnyH_take (i := 2) (v := ?_) rfl (by kernel_rfl) (by kernel_rfl) (by kernel_rfl) (fun _ _ _ h => h) (Or.inl ⟨by rfl, ?_⟩) (by assumption) ?_
      rotate_left
      · intro w hSw
        (try dsimp only at hSw)
        go_simp
        try with_reducible rfl
      try simp only [Act.put, List.setIfInBounds_toArray, List.set_cons_zero, List.set_cons_succ, List.getElem_toArray, List.getElem_cons_zero, List.getElem_cons_succ]
      refine wpAnyH_take (i := 5) (v := ?_) rfl (by kernel_rfl) (by kernel_rfl) (by kernel_rfl) (fun _ _ _ h => h) (Or.inl ⟨by rfl, ?_⟩) (by assumption) ?_
      rotate_left
      · intro w hSw
        (try dsimp only at hSw)
        go_simp
        try with_reducible rfl
      try simp only [Act.put, List.setIfInBounds_toArray, List.set_cons_zero, List.set_cons_succ, List.getElem_toArray, List.getElem_cons_zero, List.getElem_cons_succ]
      refine wpAnyH_take (i := 7) (v := ?_) rfl (by kernel_rfl) (by kernel_rfl) (by kernel_rfl) (fun _ _ _ h => h) (Or.inl ⟨by rfl, ?_⟩) (by assumption) ?_
      rotate_left
      · intro w hSw
        (try dsimp only at hSw)
        go_simp
        try with_reducible rfl
      try simp only [Act.put, List.setIfInBounds_toArray, List.set_cons_zero, List.set_cons_succ, List.getElem_toArray, List.getElem_cons_zero, List.getElem_cons_succ]
      refine wpAnyH_take (i := 1) (v := ?_) rfl (by kernel_rfl) (by kernel_rfl) (by kernel_rfl) (fun _ _ _ h => h) (Or.inl ⟨by rfl, ?_⟩) (by assumption) ?_
      rotate_left
      · intro w hSw
        have hcell := (HLM.out _ _ hSw.2.1).c9
        clear hSw
        go_simp
        try with_reducible rfl
      try simp only [Act.put, List.setIfInBounds_toArray, List.set_cons_zero, List.set_cons_succ, List.getElem_toArray, List.getElem_cons_zero, List.getElem_cons_succ]
      refine wpAnyH_take (i := 6) (v := ?_) rfl (by kernel_rfl) (by kernel_rfl) (by kernel_rfl) (fun _ _ _ h => h) (Or.inl ⟨by rfl, ?_⟩) (by assumption) ?_
      rotate_left
      · intro w hSw
        have hcell := (HLM2.out _ _ hSw.2.2).c9
        clear hSw
        go_simp
        try with_reducible rfl
      try simp only [Act.put, List.setIfInBounds_toArray, List.set_cons_zero, List.set_cons_succ, List.getElem_toArray, List.getElem_cons_zero, List.getElem_cons_succ]
      refine wpAnyH_take (i := 3) (v := ?_) rfl (by kernel_rfl) (by kernel_rfl) (by kernel_rfl) (fun _ _ _ h => h) (Or.inl ⟨by rfl, ?_⟩) (by assumption) ?_
      rotate_left
      · intro w hSw
        (try dsimp only at hSw)
        go_simp
        try with_reducible rfl
      try simp only [Act.put, List.setIfInBounds_toArray, List.set_cons_zero, List.set_cons_succ, List.getElem_toArray, List.getElem_cons_zero, List.getElem_cons_succ]
      refine wpAnyH_take (i := 8) (v := ?_) rfl (by kernel_rfl) (by kernel_rfl) (by kernel_rfl) (fun _ _ _ h => h) (Or.inl ⟨by rfl, ?_⟩) (by assumption) ?_
      rotate_left
      · intro w hSw
        (try dsimp only at hSw)
        go_simp
        try with_reducible rfl
      try simp only [Act.put, List.setIfInBounds_toArray, List.set_cons_zero, List.set_cons_succ, List.getElem_toArray, List.getElem_cons_zero, List.getElem_cons_succ]
      refine wpAnyH_take (i := 4) (v := .agg (List.toArray (dl x))) rfl (by kernel_rfl) (by kernel_rfl) (by kernel_rfl) (fun _ _ _ h => h) (yieldsIf_load_mid (by rfl) _ _ rfl _ _ rfl (dl x) _ (fun w hSw => hSw.1.1) Try.underlying22 rfl (HXS.out)) (by assumption) ?_
      try simp only [Act.put, List.setIfInBounds_toArray, List.set_cons_zero, List.set_cons_succ, List.getElem_toArray, List.getElem_cons_zero, List.getElem_cons_succ]
      refine wpAnyH_take (i := 9) (v := .agg (List.toArray (dl x))) rfl (by kernel_rfl) (by kernel_rfl) (by kernel_rfl) (fun _ _ _ h => h) (yieldsIf_load_mid (by rfl) _ _ rfl _ _ rfl (dl x) _ (fun w hSw => hSw.1.2) Try.underlying22 rfl (HXS.out)) (by assumption) ?_
      try simp only [Act.put, List.setIfInBounds_toArray, List.set_cons_zero, List.set_cons_succ, List.getElem_toArray, List.getElem_cons_zero, List.getElem_cons_succ]
      refine wpAnyH_take (i := 10) (v := ?_) rfl (by kernel_rfl) (by kernel_rfl) (by kernel_rfl) (fun _ _ _ h => h) (Or.inl ⟨by rfl, ?_⟩) (by assumption) ?_
      rotate_left
      · intro w hSw
        (try dsimp only at hSw)
        go_simp
        try with_reducible rfl
      try simp only [Act.put, List.setIfInBounds_toArray, List.set_cons_zero, List.set_cons_succ, List.getElem_toArray, List.getElem_cons_zero, List.getElem_cons_succ]
      refine wpAnyH_done (by kernel_rfl) ?_ _
      clear hHeld hkr
      go_wp2_with fail
      go_roundw
      case rel => exact ⟨i + 1, hlt, by go_num, HXd, HYd, HBd⟩
      case measure => simp [intOf] <;> omega
    · have hi1 : ¬ ((i : Int) < N) := by omega
      obtain rfl : i = N := by omega
      go_wp2_with fail
      go_ret
      exact ⟨rfl, HB.out⟩
set_option maxRecDepth 20000 in
set_option maxHeartbeats 4000000 in
theorem lsame_any (w : World) (L : LkT) (A B : Option Addr) (N C D : Nat) (hk : LkK w L A N) (hk' : LkK w L B N) :
    Calls Try.prog 37 #[.agg (lkC L (.slice A N C)).toArray, .agg (lkC L (.slice B N D)).toArray] w fun e w' => e = .returned (.bool true) ∧ Below w.heap.size w w' := by
  have hN := hk.n
  have hkr := dg_eq_run L.h L.h hk.h hk.h
  rw [show eqL L.h L.h = true by simp [eqL]] at hkr
  obtain ⟨l, hl⟩ : ∃ x, lkC L (.slice A N C) = x := ⟨_, rfl⟩
  obtain ⟨X, hX⟩ : ∃ X, l.toArray = X := ⟨_, rfl⟩
  obtain ⟨l2, hl2⟩ : ∃ x, lkC L (.slice B N D) = x := ⟨_, rfl⟩
  obtain ⟨Y, hY⟩ : ∃ X, l2.toArray = X := ⟨_, rfl⟩
  obtain ⟨z, hz⟩ : ∃ z, w.heap.size = z := ⟨_, rfl⟩
  obtain ⟨w1, hw1⟩ : ∃ w1, (w.alloc (.cells X 26)).alloc (.cells Y 26) = w1 := ⟨_, rfl⟩
  have hb1 : Below w.heap.size w w1 := hw1 ▸ (below_new w _).alloc (by simp) _
  have kx : Bk w1 z 26 l := hw1 ▸ (Bk.at_ w _ X hz (by rw [← hX])).alloc _
  have ky : Bk w1 (z + 1) 26 l2 := hw1 ▸ Bk.at_ _ _ Y (by simp [hz]) (by rw [← hY])
  have hh : DgOk L.h := hk.h
  have HLM : Hid (∀ w' g', Bk w' g' 26 l → LkM w' g' L (.slice A N C)) := fun w' g' h' => by rw [← hl] at h'; exact lk_mem hh h'
  have HLM2 : Hid (∀ w' g', Bk w' g' 26 l2 → LkM w' g' L (.slice B N D)) := fun w' g' h' => by rw [← hl2] at h'; exact lk_mem hh h'
  have HW := Lib.hid hw1; have HB1 := Lib.hid hb1; have HX1 := Lib.hid kx; have HY1 := Lib.hid ky; have HHO := Lib.hid hh; have HZ := Lib.hid hz; have HK := Lib.hid hk; have HK2 := Lib.hid hk'
  rw [hl, hX, hl2, hY]
  clear hl hX hl2 hY hw1 hb1 kx ky hh hz
  obtain ⟨c0, r1, c9, c10, c11, c12⟩ := HLM.out _ _ HX1.out
  obtain ⟨d0, q1, d9, d10, d11, d12⟩ := HLM2.out _ _ HY1.out
  have HR1 := Lib.hid r1; have HQ1 := Lib.hid q1; have HHS := Lib.hid (hdg_size _ HHO.out)
  clear r1 q1
  clear hk hk'
  go_enter Try.func37, Try.ntmps37
  go_upto_region 1 with fail
  rw [HW.out, HZ.out]
  go_wp2_with (first
    | ((with_reducible refine wpList_load_midG ?_ 23 _ rfl z 1 rfl (dl L.h) _ HR1.out Try.underlying23 rfl HHS.out ?_); rfl)
    | ((with_reducible refine wpList_load_midG ?_ 23 _ rfl (z + 1) 1 rfl (dl L.h) _ HQ1.out Try.underlying23 rfl HHS.out ?_); rfl))
  clear hkr
  refine (eqSame_any w1 A B N C D L.ks HK.out.ko (HK.out.later HB1.out).k (HK2.out.later HB1.out).k hN).mono ?_
  rintro e w2 ⟨rfl, hbn⟩
  have HB2 := Lib.hid (below_then HB1.out hbn); have HX2 := Lib.hid (HX1.out.later hbn); have HY2 := Lib.hid (HY1.out.later hbn)
  clear hbn c0 c9 c10 c11 c12 d0 d9 d10 d11 d12
  have c10 := (HLM.out _ _ HX2.out).c10; have c11 := (HLM.out _ _ HX2.out).c11; have c12 := (HLM.out _ _ HX2.out).c12
  have d10 := (HLM2.out _ _ HY2.out).c10; have d11 := (HLM2.out _ _ HY2.out).c11; have d12 := (HLM2.out _ _ HY2.out).c12
  go_wp2_with fail
  go_ret
  exact ⟨rfl, HB2.out⟩
/-- A lock's bytes, or what is wrong with it. -/
def encLk (L : LkT) (N : Nat) : List Int := if checkL L.k L.s L.c L.u N = 0 then lkB L.k.toNat L.h L.ks L.s.toNat L.c.toNat L.u.toNat else []
def RetLe (L : LkT) (N : Nat) (w : World) (e : Ending) (w' : World) : Prop :=
  ∃ v, e = .returned (.tuple #[v, .int .i64 (checkL L.k L.s L.c L.u N)]) ∧ OwnB w.heap.size (encLk L N) w v w'
set_option maxRecDepth 20000 in
set_option maxHeartbeats 2000000 in
theorem lenc_any (w : World) (L : LkT) (A : Option Addr) (N C : Nat) (hk : LkK w L A N) :
    Calls Try.prog 31 #[.agg (lkC L (.slice A N C)).toArray] w (RetLe L N w) := by
  have hh := hk.h
  have HCK := Lib.hid (fun w' => lcheck_any w' L hh A N C)
  obtain ⟨X, hX⟩ : ∃ X, (lkC L (.slice A N C)).toArray = X := ⟨_, rfl⟩
  obtain ⟨z, hz⟩ : ∃ z, w.heap.size = z := ⟨_, rfl⟩
  obtain ⟨w1, hw1⟩ : ∃ w1, w.alloc (.cells X 26) = w1 := ⟨_, rfl⟩
  have hb1 : Below w.heap.size w w1 := hw1 ▸ below_new w _
  have kx : Bk w1 z 26 (lkC L (.slice A N C)) := hw1 ▸ Bk.at_ w _ X hz (by rw [← hX])
  have HSL := Lib.hid (lk_sz hh (.slice A N C))
  have HW := Lib.hid hw1; have HB1 := Lib.hid hb1; have HL1 := Lib.hid kx; have HZ := Lib.hid hz
  have HEN : Hid (checkL L.k L.s L.c L.u N = 0 → encLk L N = lkB L.k.toNat L.h L.ks L.s.toNat L.c.toNat L.u.toNat) := fun h => if_pos h
  have HEZ : Hid (checkL L.k L.s L.c L.u N ≠ 0 → encLk L N = []) := fun h => if_neg h
  have HLB : Hid (∀ w', Below w.heap.size w w' → checkL L.k L.s L.c L.u N = 0 → Calls Try.prog 44 #[.agg (lkC L (.slice A N C)).toArray] w' (RetB w'.heap.size (lkB L.k.toNat L.h L.ks L.s.toNat L.c.toNat L.u.toNat) w')) := fun w' hb hc => by
    obtain ⟨e1, e2, e3, e4, e5⟩ := checkL_zero hc
    have hk' := hk.later hb
    obtain ⟨lk, h, ks, ls, lc, lu⟩ := L
    obtain ⟨k, h1⟩ : ∃ k : Nat, lk = k := ⟨lk.toNat, by simp only at e5; rcases e5 with e | e <;> omega⟩
    obtain ⟨s, h2⟩ : ∃ k : Nat, ls = k := ⟨ls.toNat, by simp only at e5; rcases e5 with e | e <;> omega⟩
    obtain ⟨c, h3⟩ : ∃ k : Nat, lc = k := ⟨lc.toNat, by simp only at e1; omega⟩
    obtain ⟨u, h4⟩ : ∃ k : Nat, lu = k := ⟨lu.toNat, by simp only at e3; omega⟩
    subst h1; subst h2; subst h3; subst h4
    simp only [Int.toNat_natCast]
    have hN := hk.n
    simp only at e1 e2 e3 e4 e5
    exact lbytes_any w' k s c u h ks A N C hk' (by rcases e5 with e | e <;> omega) (by rcases e5 with e | e <;> omega) (by omega) (by omega)
  obtain ⟨y, hy⟩ : ∃ y, checkL L.k L.s L.c L.u N = y := ⟨_, rfl⟩
  unfold RetLe
  rw [hy] at HCK HEN HEZ HLB ⊢
  rw [hX]
  clear hX hw1 hb1 kx hz hh hk hy
  by_cases hy0 : y = 0
  · subst hy0
    have HEN' := Lib.hid (HEN.out rfl); have HLB' : Hid (∀ w', Below w.heap.size w w' → Calls Try.prog 44 #[.agg (lkC L (.slice A N C)).toArray] w' (RetB w'.heap.size (lkB L.k.toNat L.h L.ks L.s.toNat L.c.toNat L.u.toNat) w')) := fun w' hb => HLB.out w' hb rfl
    rw [HEN'.out]
    obtain ⟨T, hT⟩ : ∃ T, lkB L.k.toNat L.h L.ks L.s.toNat L.c.toNat L.u.toNat = T := ⟨_, rfl⟩
    rw [hT] at HLB' ⊢
    clear HEN HEZ HLB HEN' hT
    go_enter Try.func31, Try.ntmps31
    go_upto_region 1 with fail
    rw [HW.out, HZ.out]
    go_wp2_with (with_reducible refine wpList_load_bk rfl 26 _ rfl z rfl (lkC L (.slice A N C)) 26 HL1.out _ Try.underlying26 rfl HSL.out ?_)
    refine (HCK.out w1).mono ?_
    rintro e w2 ⟨rfl, hbn⟩
    have HB2 := Lib.hid (below_then HB1.out hbn); have HL2 := Lib.hid (HL1.out.later hbn)
    clear hbn
    go_wp2_with (with_reducible refine wpList_load_bk rfl 26 _ rfl z rfl (lkC L (.slice A N C)) 26 HL2.out _ Try.underlying26 rfl HSL.out ?_)
    refine (HLB'.out w2 HB2.out).mono ?_
    rintro e w3 ⟨v, rfl, hown⟩
    have HO : Hid (OwnB w.heap.size T w v w3) := ⟨own_base hown.1 HB2.out.size, below_then HB2.out hown.2⟩
    clear hown
    go_wp2_with fail
    go_ret2
    exact ⟨v, rfl, HO.out⟩
  · have HEZ' := Lib.hid (HEZ.out hy0)
    have hyn : (y != 0) = true := by simpa using hy0
    rw [HEZ'.out]
    clear HEN HEZ HLB HEZ' hy0
    go_enter Try.func31, Try.ntmps31
    go_upto_region 1 with fail
    rw [HW.out, HZ.out]
    go_wp2_with (with_reducible refine wpList_load_bk rfl 26 _ rfl z rfl (lkC L (.slice A N C)) 26 HL1.out _ Try.underlying26 rfl HSL.out ?_)
    refine (HCK.out w1).mono ?_
    rintro e w2 ⟨rfl, hbn⟩
    have HB2 := Lib.hid (below_then HB1.out hbn)
    clear hbn
    go_wp2_with fail
    go_ret2
    exact ⟨_, rfl, World.ownsRow_nil _ _ _ _, HB2.out⟩
end Go.Proofs.Ytbclfjdamklbpaa
