/- Where a thing is made. -/
import Derived.Test.YthibihjblodfmaaQ5
namespace Go.Proofs.Ythibihjblodfmaa
open Go.RowKit

def placeT (k : Int) (t u : List Int) : List Int := if k = 0 then t else if k = 1 then u else zeroD
def placeN (k n m : Int) : Int := if k = 0 then n else if k = 1 then m else 0
def placeA (k : Int) (v : List Int) : List Int := if k = 0 then zeroD else if k = 1 then v else zeroD
theorem z_dg (W : World) : (Instr.build 29 #[]).run Try.prog W = .ok (.agg (dl zeroD).toArray) W := by kernel_rfl
theorem dg_sz {t : List Int} (h : DgOk t) : (Try.prog.info? 29).map (·.size) = some (dl t).length := by rw [dl_len, h.len]; exact dg_size
theorem place_ret {w : World} {g g' : Nat} {t v : List Int} {n : Int} (ht : DgOk t) (hv : DgOk v) (h : Bk w g 29 (dl t)) (h' : Bk w g' 29 (dl v)) (tmps : Array Value) (h2 : tmps.getD 2 undef = .pointer (some ⟨g, 0, none⟩)) (h3 : tmps.getD 3 undef = .int .i64 n) (h4 : tmps.getD 4 undef = .pointer (some ⟨g', 0, none⟩)) :
    (results Try.f30 tmps).run Try.prog w = .ok (.tuple #[.agg (dl t).toArray, .int .i64 n, .agg (dl v).toArray]) w := by
  have r1 : w.rangeAt g 0 (dl t) := Bk.range (pre := []) (post := []) (by simpa using h) rfl
  have r2 : w.rangeAt g' 0 (dl v) := Bk.range (pre := []) (post := []) (by simpa using h') rfl
  have l1 := run_loadVar_mid (P := Try.prog) w g 0 29 (dl t) _ r1 Try.underlying29 rfl (dg_sz ht)
  have l2 := run_loadVar_mid (P := Try.prog) w g' 0 29 (dl v) _ r2 Try.underlying29 rfl (dg_sz hv)
  rw [Array.getD_eq_getD_getElem?] at h2 h3 h4
  simp [results, Try.results30, h2, h3, h4, asAddr, l1, l2]

set_option maxRecDepth 20000 in
set_option maxHeartbeats 4000000 in
theorem place_any (w : World) (k n m : Int) (t u v : List Int) (ht : DgOk t) (hu : DgOk u) (hv : DgOk v) (A1 A2 A3 : Option Addr) (N1 N2 N3 C1 C2 C3 : Nat) :
    Calls Try.prog 30 #[.agg (thC k n m t u v (.slice A1 N1 C1) (.slice A2 N2 C2) (.slice A3 N3 C3)).toArray] w fun e w' => e = .returned (.tuple #[.agg (dl (placeT k t u)).toArray, .int .i64 (placeN k n m), .agg (dl (placeA k v)).toArray]) ∧ Below w.heap.size w w' := by
  obtain ⟨X, hX⟩ : ∃ X, (thC k n m t u v (.slice A1 N1 C1) (.slice A2 N2 C2) (.slice A3 N3 C3)).toArray = X := ⟨_, rfl⟩
  obtain ⟨w1, hw1⟩ : ∃ w1, ((w.alloc (.cells X 35)).alloc (.cells #[.int .u8 0, .int .u8 0, .int .u8 0, .int .u8 0, .int .u8 0, .int .u8 0, .int .u8 0, .int .u8 0] 29)).alloc (.cells #[.int .u8 0, .int .u8 0, .int .u8 0, .int .u8 0, .int .u8 0, .int .u8 0, .int .u8 0, .int .u8 0] 29) = w1 := ⟨_, rfl⟩
  have hb1 : Below w.heap.size w w1 := hw1 ▸ ((below_new w _).alloc (by simp) _).alloc (by simp <;> omega) _
  have kx : Bk w1 w.heap.size 35 (thC k n m t u v (.slice A1 N1 C1) (.slice A2 N2 C2) (.slice A3 N3 C3)) := hw1 ▸ ((Bk.new' w _ X (by rw [← hX])).alloc _).alloc _
  have k2 : Bk w1 (w.heap.size + 1) 29 ([] ++ (dl zeroD ++ [])) := hw1 ▸ (Bk.at_ _ _ _ (by simp) rfl).alloc _
  have k4 : Bk w1 (w.heap.size + 1 + 1) 29 ([] ++ (dl zeroD ++ [])) := hw1 ▸ Bk.at_ _ _ _ (by simp) rfl
  have c0 := (th_mem ht hu hv kx).c0
  have HW := Lib.hid hw1; have HB := Lib.hid hb1; have HKX := Lib.hid kx; have HT := Lib.hid ht; have HU := Lib.hid hu; have HV := Lib.hid hv; have HK2 := Lib.hid k2; have HK4 := Lib.hid k4
  have HT8 := Lib.hid (dg_sz ht); have HU8 := Lib.hid (dg_sz hu); have HV8 := Lib.hid (dg_sz hv); have HZ8 := Lib.hid (dg_sz zero_ok)
  rw [hX]
  clear hX hw1 hb1 kx ht hu hv k2 k4
  by_cases hk : k = 0
  · have hk1 : (k == 0) = true := by simp [hk]
    have HPT : Hid (placeT k t u = t ∧ placeN k n m = n ∧ placeA k v = zeroD) := ⟨by rw [placeT, if_pos hk], by rw [placeN, if_pos hk], by rw [placeA, if_pos hk]⟩
    clear hk
    go_enter Try.func30, Try.ntmps30
    go_upto_region 1 with fail
    rw [HW.out]
    go_wp2_with fail
    refine wp_region_held_drew (S := fun w' => Bk w' w.heap.size 35 (thC k n m t u v (.slice A1 N1 C1) (.slice A2 N2 C2) (.slice A3 N3 C3))) (by kernel_rfl) (Bk.drew HKX.out) (fun hHeld => ?_)
    refine wpAnyH_take (i := 0) (v := ?_) rfl (by kernel_rfl) (by kernel_rfl) (by kernel_rfl) (fun _ _ _ h => h) (Or.inl ⟨by rfl, ?_⟩) (by assumption) ?_
    rotate_left
    · intro w hSw
      (try dsimp only at hSw)
      go_simp
      try with_reducible rfl
    try simp only [Act.put, List.setIfInBounds_toArray, List.set_cons_zero, List.set_cons_succ, List.getElem_toArray, List.getElem_cons_zero]
    refine wpAnyH_take (i := 1) (v := ?_) rfl (by kernel_rfl) (by kernel_rfl) (by kernel_rfl) (fun _ _ _ h => h) (Or.inl ⟨by rfl, ?_⟩) (by assumption) ?_
    rotate_left
    · intro w hSw
      (try dsimp only at hSw)
      go_simp
      try with_reducible rfl
    try simp only [Act.put, List.setIfInBounds_toArray, List.set_cons_zero, List.set_cons_succ, List.getElem_toArray, List.getElem_cons_zero, List.getElem_cons_succ]
    refine wpAnyH_take (i := 2) (v := .agg (List.toArray (dl t))) rfl (by kernel_rfl) (by kernel_rfl) (by kernel_rfl) (fun _ _ _ h => h) (yieldsIf_load_mid (by rfl) _ _ rfl _ _ rfl (dl t) _ (fun w hSw => (th_mem HT.out HU.out HV.out hSw).r1) Try.underlying29 rfl (HT8.out)) (by assumption) ?_
    try simp only [Act.put, List.setIfInBounds_toArray, List.set_cons_zero, List.set_cons_succ, List.getElem_toArray, List.getElem_cons_zero, List.getElem_cons_succ]
    refine wpAnyH_take (i := 3) (v := ?_) rfl (by kernel_rfl) (by kernel_rfl) (by kernel_rfl) (fun _ _ _ h => h) (Or.inl ⟨by rfl, ?_⟩) (by assumption) ?_
    rotate_left
    · intro w hSw
      (try dsimp only at hSw)
      go_simp
      try with_reducible rfl
    try simp only [Act.put, List.setIfInBounds_toArray, List.set_cons_zero, List.set_cons_succ, List.getElem_toArray, List.getElem_cons_zero, List.getElem_cons_succ]
    refine wpAnyH_take (i := 4) (v := ?_) rfl (by kernel_rfl) (by kernel_rfl) (by kernel_rfl) (fun _ _ _ h => h) (Or.inl ⟨by rfl, ?_⟩) (by assumption) ?_
    rotate_left
    · intro w hSw
      (try dsimp only at hSw)
      go_simp
      try with_reducible rfl
    try simp only [Act.put, List.setIfInBounds_toArray, List.set_cons_zero, List.set_cons_succ, List.getElem_toArray, List.getElem_cons_zero, List.getElem_cons_succ]
    refine wpAnyH_take (i := 5) (v := ?_) rfl (by kernel_rfl) (by kernel_rfl) (by kernel_rfl) (fun _ _ _ h => h) (Or.inl ⟨by rfl, ?_⟩) (by assumption) ?_
    rotate_left
    · intro w hSw
      have hcell := (th_mem HT.out HU.out HV.out hSw).c9
      clear hSw
      go_simp
      try with_reducible rfl
    try simp only [Act.put, List.setIfInBounds_toArray, List.set_cons_zero, List.set_cons_succ, List.getElem_toArray, List.getElem_cons_zero, List.getElem_cons_succ]
    refine wpAnyH_take (i := 6) (v := .agg (List.toArray (dl zeroD))) rfl (by kernel_rfl) (by kernel_rfl) (by kernel_rfl) (fun _ _ _ h => h) (yieldsIf_build (by rfl) _ _ rfl #[] (by simp [Act.eval]) _ (z_dg)) (by assumption) ?_
    try simp only [Act.put, List.setIfInBounds_toArray, List.set_cons_zero, List.set_cons_succ, List.getElem_toArray, List.getElem_cons_zero, List.getElem_cons_succ]
    refine wpAnyH_ready (rs := [7]) (by kernel_rfl) (by simp) ?_
    refine AllReadyH.cons rfl (fun K hK => ?_) AllReadyH.nil
    rw [if_pos (by rfl)]
    refine wp_store_part _ _ _ rfl (w.heap.size + 1) 0 _ (dl t) rfl rfl rfl _ ([]) (dl zeroD) ([]) HK2.out.drew rfl (by rw [dl_len, dl_len, HT.out.len]; rfl) HT8.out (dl_one t) ?_
    intro w5 hp5
    refine hK.out _ _ (hHeld.grown hp5.only (by intro h; injection h with h; omega)) (fun hHeld => ?_)
    clear hK K
    try simp only [Act.put, List.getElem_toArray, List.getElem_cons_zero, List.getElem_cons_succ]
    refine wpAnyH_take (i := 8) (v := ?_) rfl (by kernel_rfl) (by kernel_rfl) (by kernel_rfl) (fun _ _ _ h => h) (Or.inl ⟨by rfl, ?_⟩) (by assumption) ?_
    rotate_left
    · intro w hSw
      (try dsimp only at hSw)
      go_simp
      try with_reducible rfl
    try simp only [Act.put, List.setIfInBounds_toArray, List.set_cons_zero, List.set_cons_succ, List.getElem_toArray, List.getElem_cons_zero, List.getElem_cons_succ]
    have k5 : Bk w5 (w.heap.size + 1 + 1) 29 ([] ++ (dl zeroD ++ [])) := HK4.out.drew.grown hp5.only (by intro h; injection h with h; omega)
    refine wpAnyH_ready (rs := [9]) (by kernel_rfl) (by simp) ?_
    refine AllReadyH.cons rfl (fun K hK => ?_) AllReadyH.nil
    rw [if_pos (by rfl)]
    refine wp_store_part _ _ _ rfl (w.heap.size + 1 + 1) 0 _ (dl zeroD) rfl rfl rfl _ ([]) (dl zeroD) ([]) k5 rfl rfl HZ8.out (dl_one zeroD) ?_
    intro w6 hp6
    refine hK.out _ _ (hHeld.grown hp6.only (by intro h; injection h with h; omega)) (fun hHeld => ?_)
    clear hK K
    try simp only [Act.put, List.getElem_toArray, List.getElem_cons_zero, List.getElem_cons_succ]
    refine wpAnyH_done (by kernel_rfl) ?_ _
    have r2 : Bk w6 (w.heap.size + 1) 29 (dl t) := by have := hp5.bk.grown hp6.only (by intro h; injection h with h; omega); simpa using this
    have r4 : Bk w6 (w.heap.size + 1 + 1) 29 (dl zeroD) := by have := hp6.bk; simpa using this
    have HB6 := Lib.hid (below_only (below_only HB.out.drew hp5.only HB.out.size (by omega)) hp6.only (by rw [hp5.size]; exact HB.out.size) (by omega))
    have HR2 := Lib.hid r2; have HR4 := Lib.hid r4
    clear hHeld k5 hp5 hp6 r2 r4
    go_wp2_with fail
    refine bodyPost_ret (place_ret HT.out zero_ok HR2.out HR4.out _ rfl rfl rfl) rfl ?_
    exact ⟨by rw [HPT.out.1, HPT.out.2.1, HPT.out.2.2], HB6.out⟩
  · by_cases hk' : k = 1
    · have hk1 : (k == 0) = false := by simp [hk]
      have hk2 : (k == 1) = true := by simp [hk']
      have HPT : Hid (placeT k t u = u ∧ placeN k n m = m ∧ placeA k v = v) := ⟨by rw [placeT, if_neg hk, if_pos hk'], by rw [placeN, if_neg hk, if_pos hk'], by rw [placeA, if_neg hk, if_pos hk']⟩
      clear hk hk'
      go_enter Try.func30, Try.ntmps30
      go_upto_region 1 with fail
      rw [HW.out]
      go_wp2_with fail
      refine wp_region_held_drew (S := fun w' => Bk w' w.heap.size 35 (thC k n m t u v (.slice A1 N1 C1) (.slice A2 N2 C2) (.slice A3 N3 C3))) (by kernel_rfl) (Bk.drew HKX.out) (fun hHeld => ?_)
      refine wpAnyH_take (i := 0) (v := ?_) rfl (by kernel_rfl) (by kernel_rfl) (by kernel_rfl) (fun _ _ _ h => h) (Or.inl ⟨by rfl, ?_⟩) (by assumption) ?_
      rotate_left
      · intro w hSw
        (try dsimp only at hSw)
        go_simp
        try with_reducible rfl
      try simp only [Act.put, List.setIfInBounds_toArray, List.set_cons_zero, List.set_cons_succ, List.getElem_toArray, List.getElem_cons_zero]
      refine wpAnyH_take (i := 1) (v := ?_) rfl (by kernel_rfl) (by kernel_rfl) (by kernel_rfl) (fun _ _ _ h => h) (Or.inl ⟨by rfl, ?_⟩) (by assumption) ?_
      rotate_left
      · intro w hSw
        (try dsimp only at hSw)
        go_simp
        try with_reducible rfl
      try simp only [Act.put, List.setIfInBounds_toArray, List.set_cons_zero, List.set_cons_succ, List.getElem_toArray, List.getElem_cons_zero, List.getElem_cons_succ]
      refine wpAnyH_take (i := 2) (v := .agg (List.toArray (dl u))) rfl (by kernel_rfl) (by kernel_rfl) (by kernel_rfl) (fun _ _ _ h => h) (yieldsIf_load_mid (by rfl) _ _ rfl _ _ rfl (dl u) _ (fun w hSw => (th_mem HT.out HU.out HV.out hSw).r11) Try.underlying29 rfl (HU8.out)) (by assumption) ?_
      try simp only [Act.put, List.setIfInBounds_toArray, List.set_cons_zero, List.set_cons_succ, List.getElem_toArray, List.getElem_cons_zero, List.getElem_cons_succ]
      refine wpAnyH_take (i := 3) (v := ?_) rfl (by kernel_rfl) (by kernel_rfl) (by kernel_rfl) (fun _ _ _ h => h) (Or.inl ⟨by rfl, ?_⟩) (by assumption) ?_
      rotate_left
      · intro w hSw
        (try dsimp only at hSw)
        go_simp
        try with_reducible rfl
      try simp only [Act.put, List.setIfInBounds_toArray, List.set_cons_zero, List.set_cons_succ, List.getElem_toArray, List.getElem_cons_zero, List.getElem_cons_succ]
      refine wpAnyH_take (i := 4) (v := ?_) rfl (by kernel_rfl) (by kernel_rfl) (by kernel_rfl) (fun _ _ _ h => h) (Or.inl ⟨by rfl, ?_⟩) (by assumption) ?_
      rotate_left
      · intro w hSw
        (try dsimp only at hSw)
        go_simp
        try with_reducible rfl
      try simp only [Act.put, List.setIfInBounds_toArray, List.set_cons_zero, List.set_cons_succ, List.getElem_toArray, List.getElem_cons_zero, List.getElem_cons_succ]
      refine wpAnyH_take (i := 5) (v := ?_) rfl (by kernel_rfl) (by kernel_rfl) (by kernel_rfl) (fun _ _ _ h => h) (Or.inl ⟨by rfl, ?_⟩) (by assumption) ?_
      rotate_left
      · intro w hSw
        have hcell := (th_mem HT.out HU.out HV.out hSw).c19
        clear hSw
        go_simp
        try with_reducible rfl
      try simp only [Act.put, List.setIfInBounds_toArray, List.set_cons_zero, List.set_cons_succ, List.getElem_toArray, List.getElem_cons_zero, List.getElem_cons_succ]
      refine wpAnyH_take (i := 6) (v := ?_) rfl (by kernel_rfl) (by kernel_rfl) (by kernel_rfl) (fun _ _ _ h => h) (Or.inl ⟨by rfl, ?_⟩) (by assumption) ?_
      rotate_left
      · intro w hSw
        (try dsimp only at hSw)
        go_simp
        try with_reducible rfl
      try simp only [Act.put, List.setIfInBounds_toArray, List.set_cons_zero, List.set_cons_succ, List.getElem_toArray, List.getElem_cons_zero, List.getElem_cons_succ]
      refine wpAnyH_take (i := 7) (v := ?_) rfl (by kernel_rfl) (by kernel_rfl) (by kernel_rfl) (fun _ _ _ h => h) (Or.inl ⟨by rfl, ?_⟩) (by assumption) ?_
      rotate_left
      · intro w hSw
        (try dsimp only at hSw)
        go_simp
        try with_reducible rfl
      try simp only [Act.put, List.setIfInBounds_toArray, List.set_cons_zero, List.set_cons_succ, List.getElem_toArray, List.getElem_cons_zero, List.getElem_cons_succ]
      refine wpAnyH_take (i := 8) (v := .agg (List.toArray (dl v))) rfl (by kernel_rfl) (by kernel_rfl) (by kernel_rfl) (fun _ _ _ h => h) (yieldsIf_load_mid (by rfl) _ _ rfl _ _ rfl (dl v) _ (fun w hSw => (th_mem HT.out HU.out HV.out hSw).r20) Try.underlying29 rfl (HV8.out)) (by assumption) ?_
      try simp only [Act.put, List.setIfInBounds_toArray, List.set_cons_zero, List.set_cons_succ, List.getElem_toArray, List.getElem_cons_zero, List.getElem_cons_succ]
      refine wpAnyH_ready (rs := [9]) (by kernel_rfl) (by simp) ?_
      refine AllReadyH.cons rfl (fun K hK => ?_) AllReadyH.nil
      rw [if_pos (by rfl)]
      refine wp_store_part _ _ _ rfl (w.heap.size + 1) 0 _ (dl u) rfl rfl rfl _ ([]) (dl zeroD) ([]) HK2.out.drew rfl (by rw [dl_len, dl_len, HU.out.len]; rfl) HU8.out (dl_one u) ?_
      intro w5 hp5
      refine hK.out _ _ (hHeld.grown hp5.only (by intro h; injection h with h; omega)) (fun hHeld => ?_)
      clear hK K
      try simp only [Act.put, List.getElem_toArray, List.getElem_cons_zero, List.getElem_cons_succ]
      refine wpAnyH_take (i := 10) (v := ?_) rfl (by kernel_rfl) (by kernel_rfl) (by kernel_rfl) (fun _ _ _ h => h) (Or.inl ⟨by rfl, ?_⟩) (by assumption) ?_
      rotate_left
      · intro w hSw
        (try dsimp only at hSw)
        go_simp
        try with_reducible rfl
      try simp only [Act.put, List.setIfInBounds_toArray, List.set_cons_zero, List.set_cons_succ, List.getElem_toArray, List.getElem_cons_zero, List.getElem_cons_succ]
      have k5 : Bk w5 (w.heap.size + 1 + 1) 29 ([] ++ (dl zeroD ++ [])) := HK4.out.drew.grown hp5.only (by intro h; injection h with h; omega)
      refine wpAnyH_ready (rs := [11]) (by kernel_rfl) (by simp) ?_
      refine AllReadyH.cons rfl (fun K hK => ?_) AllReadyH.nil
      rw [if_pos (by rfl)]
      refine wp_store_part _ _ _ rfl (w.heap.size + 1 + 1) 0 _ (dl v) rfl rfl rfl _ ([]) (dl zeroD) ([]) k5 rfl (by rw [dl_len, dl_len, HV.out.len]; rfl) HV8.out (dl_one v) ?_
      intro w6 hp6
      refine hK.out _ _ (hHeld.grown hp6.only (by intro h; injection h with h; omega)) (fun hHeld => ?_)
      clear hK K
      try simp only [Act.put, List.getElem_toArray, List.getElem_cons_zero, List.getElem_cons_succ]
      refine wpAnyH_done (by kernel_rfl) ?_ _
      have r2 : Bk w6 (w.heap.size + 1) 29 (dl u) := by have := hp5.bk.grown hp6.only (by intro h; injection h with h; omega); simpa using this
      have r4 : Bk w6 (w.heap.size + 1 + 1) 29 (dl v) := by have := hp6.bk; simpa using this
      have HB6 := Lib.hid (below_only (below_only HB.out.drew hp5.only HB.out.size (by omega)) hp6.only (by rw [hp5.size]; exact HB.out.size) (by omega))
      have HR2 := Lib.hid r2; have HR4 := Lib.hid r4
      clear hHeld k5 hp5 hp6 r2 r4
      go_wp2_with fail
      refine bodyPost_ret (place_ret HU.out HV.out HR2.out HR4.out _ rfl rfl rfl) rfl ?_
      exact ⟨by rw [HPT.out.1, HPT.out.2.1, HPT.out.2.2], HB6.out⟩
    · have hk1 : (k == 0) = false := by simp [hk]
      have hk2 : (k == 1) = false := by simp [hk']
      have HPT : Hid (placeT k t u = zeroD ∧ placeN k n m = 0 ∧ placeA k v = zeroD) := ⟨by rw [placeT, if_neg hk, if_neg hk'], by rw [placeN, if_neg hk, if_neg hk'], by rw [placeA, if_neg hk, if_neg hk']⟩
      obtain ⟨z0, z1, z2, z3, z4, z5, z6, z7⟩ := cells8 (show DgAt w1 (w.heap.size + 1) 29 [0, 0, 0, 0, 0, 0, 0, 0] from HK2.out)
      obtain ⟨y0, y1, y2, y3, y4, y5, y6, y7⟩ := cells8 (show DgAt w1 (w.heap.size + 1 + 1) 29 [0, 0, 0, 0, 0, 0, 0, 0] from HK4.out)
      have zf : ∀ i, w1.frozen? ⟨w.heap.size + 1, i, none⟩ = false := fun i => HK2.out.frozen i
      have yf : ∀ i, w1.frozen? ⟨w.heap.size + 1 + 1, i, none⟩ = false := fun i => HK4.out.frozen i
      have zl := HK2.out.lt
      have yl := HK4.out.lt
      clear hk hk'
      go_enter Try.func30, Try.ntmps30
      go_upto_region 1 with fail
      rw [HW.out]
      go_wp2_with (with_reducible refine stop_store 29 _ _ rfl ?_)
      refine StopD.go ?_
      refine wpList_store_part rfl 29 _ _ rfl (w.heap.size + 1) 0 (.agg (dl zeroD).toArray) (dl zeroD) rfl rfl rfl 29 [] (dl zeroD) [] HK2.out rfl rfl HZ8.out (dl_one zeroD) ?_
      intro w5 hp5
      go_wp2_with (with_reducible refine stop_store 29 _ _ rfl ?_)
      refine StopD.go ?_
      have k5 : Bk w5 (w.heap.size + 1 + 1) 29 ([] ++ (dl zeroD ++ [])) := HK4.out.grown hp5.only (by intro h; injection h with h; omega)
      refine wpList_store_part rfl 29 _ _ rfl (w.heap.size + 1 + 1) 0 (.agg (dl zeroD).toArray) (dl zeroD) rfl rfl rfl 29 [] (dl zeroD) [] k5 rfl rfl HZ8.out (dl_one zeroD) ?_
      intro w6 hp6
      have r2 : Bk w6 (w.heap.size + 1) 29 (dl zeroD) := by have := hp5.bk.grown hp6.only (by intro h; injection h with h; omega); simpa using this
      have r4 : Bk w6 (w.heap.size + 1 + 1) 29 (dl zeroD) := by have := hp6.bk; simpa using this
      have HB6 := Lib.hid (below_only (below_only HB.out hp5.only HB.out.size (by omega)) hp6.only (by rw [hp5.size]; exact HB.out.size) (by omega))
      have HR2 := Lib.hid r2; have HR4 := Lib.hid r4
      clear k5 hp5 hp6 r2 r4
      go_wp2_with fail
      refine bodyPost_ret (place_ret zero_ok zero_ok HR2.out HR4.out _ rfl rfl rfl) rfl ?_
      exact ⟨by rw [HPT.out.1, HPT.out.2.1, HPT.out.2.2], HB6.out⟩
end Go.Proofs.Ythibihjblodfmaa
