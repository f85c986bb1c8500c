/- Things as the document's. -/
import Derived.Test.YthibihjblodfmaaQ1
namespace Go.Proofs.Ythibihjblodfmaa
open Go.RowKit

theorem build_rt (k n : Int) (t : List Int) (ht : DgOk t) (A B : Option Addr) (N C M D : Nat) (w : World) :
    (Instr.build 25 #[(0, .int .i64 k), (1, .agg (dl t).toArray), (2, .int .i64 n), (4, .slice A N C), (5, .slice B M D)]).run Try.prog w = .ok (.agg (rtC k n t zeroD (.slice A N C) (.slice B M D) false).toArray) w := by
  obtain ⟨t0, t1, t2, t3, t4, t5, t6, t7, rfl⟩ := list8 t ht.len
  kernel_rfl
theorem z_rt : (#[.int .i64 0, .int .u8 0, .int .u8 0, .int .u8 0, .int .u8 0, .int .u8 0, .int .u8 0, .int .u8 0, .int .u8 0, .int .i64 0, .int .u8 0, .int .u8 0, .int .u8 0, .int .u8 0, .int .u8 0, .int .u8 0, .int .u8 0, .int .u8 0, .slice none 0 0, .slice none 0 0, .bool false] : Array Value) = (rtC 0 0 zeroD zeroD (.slice none 0 0) (.slice none 0 0) false).toArray := rfl
theorem dl_one (ds : List Int) : ∀ v ∈ dl ds, v.oneCell' = true := ints_one _ _
theorem rt_one {k n : Int} {t v : List Int} {A B : Option Addr} {N C M D : Nat} {o : Bool} : ∀ x ∈ rtC k n t v (.slice A N C) (.slice B M D) o, x.oneCell' = true := by
  intro x hx
  simp only [rtC, List.mem_cons, List.mem_append, List.not_mem_nil, or_false] at hx
  rcases hx with rfl | hx | rfl | hx | rfl | rfl | rfl
  · rfl
  · exact dl_one _ _ hx
  · rfl
  · exact dl_one _ _ hx
  all_goals rfl

set_option maxRecDepth 20000 in
theorem to_any (w : World) (k n m : Int) (t u v : List Int) (ht : DgOk t) (hu : DgOk u) (hv : DgOk v) (A B E : Option Addr) (N C M D O F : Nat) :
    Calls Try.prog 23 #[.agg (thC k n m t u v (.slice A N C) (.slice B M D) (.slice E O F)).toArray] w fun e w' =>
      e = .returned (.agg (if k = 1 then rtC k m u v (.slice B M D) (.slice E O F) false else rtC k n t zeroD (.slice A N C) (.slice E O F) false).toArray) ∧ Below w.heap.size w w' := by
  obtain ⟨X, hX⟩ : ∃ X, (thC k n m t u v (.slice A N C) (.slice B M D) (.slice E O F)).toArray = X := ⟨_, rfl⟩
  obtain ⟨Z, hZ⟩ : ∃ Z, (rtC 0 0 zeroD zeroD (.slice none 0 0) (.slice none 0 0) false).toArray = Z := ⟨_, rfl⟩
  obtain ⟨w1, hw1⟩ : ∃ w1, (w.alloc (.cells X 35)).alloc (.cells Z 25) = w1 := ⟨_, rfl⟩
  have hb1 : Below w.heap.size w w1 := hw1 ▸ (below_new w _).alloc (by simp) _
  have kx : Bk w1 w.heap.size 35 (thC k n m t u v (.slice A N C) (.slice B M D) (.slice E O F)) := hw1 ▸ (Bk.new' w _ X (by rw [← hX])).alloc _
  have kz : Bk w1 (w.heap.size + 1) 25 (rtC 0 0 zeroD zeroD (.slice none 0 0) (.slice none 0 0) false) := hw1 ▸ Bk.at_ _ _ Z (by simp) (by rw [← hZ])
  have hz1 : w1.heap.size = w.heap.size + 1 + 1 := by rw [← hw1]; simp
  have hm := th_mem ht hu hv kx
  have HX := Lib.hid hX; have HZ := Lib.hid hZ; have HW := Lib.hid hw1; have HB := Lib.hid hb1; have HKX := Lib.hid kx; have HKZ := Lib.hid kz; have HZ1 := Lib.hid hz1; have HT := Lib.hid ht; have HU := Lib.hid hu; have HV := Lib.hid hv; have HM := Lib.hid hm
  have c0 := hm.c0; have c9 := hm.c9; have c10 := hm.c10; have c29 := hm.c29
  have hbd := build_rt k n t ht A E N C O F
  have hsz : Hid ((Try.prog.info? 29).map (·.size) = some (dl t).length) := by show _ = _; rw [dl_len, ht.len]; exact dg_size
  rw [hX]
  clear hX hw1 hb1 kx kz hz1 ht hu hv hm
  have HBD := Lib.hid hbd
  have HZ3 : Hid (Bk (w1.alloc (.cells #[.int .i64 0, .int .u8 0, .int .u8 0, .int .u8 0, .int .u8 0, .int .u8 0, .int .u8 0, .int .u8 0, .int .u8 0, .int .i64 0, .int .u8 0, .int .u8 0, .int .u8 0, .int .u8 0, .int .u8 0, .int .u8 0, .int .u8 0, .int .u8 0, .slice none 0 0, .slice none 0 0, .bool false] 25)) w1.heap.size 25 (rtC 0 0 zeroD zeroD (.slice none 0 0) (.slice none 0 0) false)) := Bk.new' _ _ _ rfl
  have HYS : Hid ((Try.prog.info? 25).map (·.size) = some (rtC k n t zeroD (.slice A N C) (.slice E O F) false).length) := by show _ = _; rw [rtC_len HT.out zero_ok]; exact rt_size
  have HYL : Hid ((rtC 0 0 zeroD zeroD (.slice none 0 0) (.slice none 0 0) false).length = (rtC k n t zeroD (.slice A N C) (.slice E O F) false).length) := by show _ = _; rw [rtC_len HT.out zero_ok]; rfl
  clear hbd hZ
  have HKX3 := Lib.hid (HKX.out.alloc (.cells #[.int .i64 0, .int .u8 0, .int .u8 0, .int .u8 0, .int .u8 0, .int .u8 0, .int .u8 0, .int .u8 0, .int .u8 0, .int .i64 0, .int .u8 0, .int .u8 0, .int .u8 0, .int .u8 0, .int .u8 0, .int .u8 0, .int .u8 0, .int .u8 0, .slice none 0 0, .slice none 0 0, .bool false] 25))
  by_cases hk : k = 1
  · have hk1 : (k == 1) = true := by simp [hk]
    rw [if_pos hk]
    clear hk
    go_enter Try.func23, Try.ntmps23
    go_upto_region 1 with fail
    rw [z_rt, HZ.out, HW.out]
    go_wp2_with (first
      | (with_reducible refine wpList_load_mid rfl 29 _ rfl w.heap.size 1 rfl (dl t) _ HM.out.r1 Try.underlying29 rfl hsz.out ?_)
      | (with_reducible refine wpList_build rfl 25 _ rfl #[(0, .int .i64 k), (1, .agg (dl t).toArray), (2, .int .i64 n), (4, .slice A N C), (5, .slice E O F)] (by simp [Act.eval]) (.agg (rtC k n t zeroD (.slice A N C) (.slice E O F) false).toArray) (HBD.out _) ?_)
      | (refine wpList_store_bk rfl 25 _ _ rfl w1.heap.size (rtC k n t zeroD (.slice A N C) (.slice E O F) false) rfl rfl 25 _ HZ3.out HYS.out HYL.out rt_one ?_; intro w3 hp3; have kx3 := HKX3.out.grown hp3.only (by have := HZ1.out; intro h; injection h; omega); have hm3 := th_mem HT.out HU.out HV.out kx3; have d0 := hm3.c0; have HP3 := Lib.hid hp3; have HK3 := Lib.hid kx3; clear hp3 hm3 kx3))
    have hg3 : ¬ w.heap.size = w1.heap.size := by have := HZ1.out; omega
    have HG3 := Lib.hid hg3
    have hu8 : (Try.prog.info? 29).map (·.size) = some (dl u).length := by rw [dl_len, HU.out.len]; exact dg_size
    have hv8 : (Try.prog.info? 29).map (·.size) = some (dl v).length := by rw [dl_len, HV.out.len]; exact dg_size
    have hu8' : (Try.prog.info? 22).map (·.size) = some (dl u).length := by rw [dl_len, HU.out.len]; exact rdg_size
    have hv8' : (Try.prog.info? 22).map (·.size) = some (dl v).length := by rw [dl_len, HV.out.len]; exact rdg_size
    have i1 : (Try.prog.info? 3).map (·.size) = some 1 := by kernel_rfl
    have i2 : (Try.prog.info? 23).map (·.size) = some 1 := by kernel_rfl
    have HU8 := Lib.hid hu8; have HV8 := Lib.hid hv8; have HU8' := Lib.hid hu8'; have HV8' := Lib.hid hv8'; have HI1 := Lib.hid i1; have HI2 := Lib.hid i2
    clear hg3 hu8 hv8 hu8' hv8' i1 i2 d0 c0 c9 c10 c29
    refine wp_region_held_drew (S := fun w' => Bk w' w.heap.size 35 (thC k n m t u v (.slice A N C) (.slice B M D) (.slice E O F))) (by kernel_rfl) (Bk.drew HK3.out) (fun hHeld => ?_)
    refine wpAnyH_take (i := 0) (v := ?_) rfl (by kernel_rfl) (by kernel_rfl) (by kernel_rfl) (fun _ _ _ h => h) (Or.inl ⟨by rfl, ?_⟩) (by assumption) ?_
    rotate_left
    · intro w hSw
      (try dsimp only at hSw)
      go_simp
      try with_reducible rfl
    try simp only [Act.put, List.setIfInBounds_toArray, List.set_cons_zero, List.set_cons_succ, List.getElem_toArray, List.getElem_cons_zero]
    refine wpAnyH_take (i := 1) (v := ?_) rfl (by kernel_rfl) (by kernel_rfl) (by kernel_rfl) (fun _ _ _ h => h) (Or.inl ⟨by rfl, ?_⟩) (by assumption) ?_
    rotate_left
    · intro w hSw
      (try dsimp only at hSw)
      go_simp
      try with_reducible rfl
    try simp only [Act.put, List.setIfInBounds_toArray, List.set_cons_zero, List.set_cons_succ, List.getElem_toArray, List.getElem_cons_zero, List.getElem_cons_succ]
    refine wpAnyH_take (i := 2) (v := .agg (List.toArray (dl u))) rfl (by kernel_rfl) (by kernel_rfl) (by kernel_rfl) (fun _ _ _ h => h) (yieldsIf_load_mid (by rfl) _ _ rfl _ _ rfl (dl u) _ (fun w hSw => (th_mem HT.out HU.out HV.out hSw).r11) Try.underlying29 rfl (HU8.out)) (by assumption) ?_
    try simp only [Act.put, List.setIfInBounds_toArray, List.set_cons_zero, List.set_cons_succ, List.getElem_toArray, List.getElem_cons_zero, List.getElem_cons_succ]
    refine wpAnyH_take (i := 3) (v := ?_) rfl (by kernel_rfl) (by kernel_rfl) (by kernel_rfl) (fun _ _ _ h => h) (Or.inl ⟨by rfl, ?_⟩) (by assumption) ?_
    rotate_left
    · intro w hSw
      (try dsimp only at hSw)
      go_simp
      try with_reducible rfl
    try simp only [Act.put, List.setIfInBounds_toArray, List.set_cons_zero, List.set_cons_succ, List.getElem_toArray, List.getElem_cons_zero, List.getElem_cons_succ]
    refine wpAnyH_take (i := 4) (v := ?_) rfl (by kernel_rfl) (by kernel_rfl) (by kernel_rfl) (fun _ _ _ h => h) (Or.inl ⟨by rfl, ?_⟩) (by assumption) ?_
    rotate_left
    · intro w hSw
      (try dsimp only at hSw)
      go_simp
      try with_reducible rfl
    try simp only [Act.put, List.setIfInBounds_toArray, List.set_cons_zero, List.set_cons_succ, List.getElem_toArray, List.getElem_cons_zero, List.getElem_cons_succ]
    refine wpAnyH_take (i := 5) (v := ?_) rfl (by kernel_rfl) (by kernel_rfl) (by kernel_rfl) (fun _ _ _ h => h) (Or.inl ⟨by rfl, ?_⟩) (by assumption) ?_
    rotate_left
    · intro w hSw
      have hcell := (th_mem HT.out HU.out HV.out hSw).c19
      clear hSw
      go_simp
      try with_reducible rfl
    try simp only [Act.put, List.setIfInBounds_toArray, List.set_cons_zero, List.set_cons_succ, List.getElem_toArray, List.getElem_cons_zero, List.getElem_cons_succ]
    refine wpAnyH_take (i := 6) (v := ?_) rfl (by kernel_rfl) (by kernel_rfl) (by kernel_rfl) (fun _ _ _ h => h) (Or.inl ⟨by rfl, ?_⟩) (by assumption) ?_
    rotate_left
    · intro w hSw
      (try dsimp only at hSw)
      go_simp
      try with_reducible rfl
    try simp only [Act.put, List.setIfInBounds_toArray, List.set_cons_zero, List.set_cons_succ, List.getElem_toArray, List.getElem_cons_zero, List.getElem_cons_succ]
    refine wpAnyH_take (i := 7) (v := ?_) rfl (by kernel_rfl) (by kernel_rfl) (by kernel_rfl) (fun _ _ _ h => h) (Or.inl ⟨by rfl, ?_⟩) (by assumption) ?_
    rotate_left
    · intro w hSw
      (try dsimp only at hSw)
      go_simp
      try with_reducible rfl
    try simp only [Act.put, List.setIfInBounds_toArray, List.set_cons_zero, List.set_cons_succ, List.getElem_toArray, List.getElem_cons_zero, List.getElem_cons_succ]
    refine wpAnyH_take (i := 8) (v := .agg (List.toArray (dl v))) rfl (by kernel_rfl) (by kernel_rfl) (by kernel_rfl) (fun _ _ _ h => h) (yieldsIf_load_mid (by rfl) _ _ rfl _ _ rfl (dl v) _ (fun w hSw => (th_mem HT.out HU.out HV.out hSw).r20) Try.underlying29 rfl (HV8.out)) (by assumption) ?_
    try simp only [Act.put, List.setIfInBounds_toArray, List.set_cons_zero, List.set_cons_succ, List.getElem_toArray, List.getElem_cons_zero, List.getElem_cons_succ]
    refine wpAnyH_take (i := 9) (v := ?_) rfl (by kernel_rfl) (by kernel_rfl) (by kernel_rfl) (fun _ _ _ h => h) (Or.inl ⟨by rfl, ?_⟩) (by assumption) ?_
    rotate_left
    · intro w hSw
      (try dsimp only at hSw)
      go_simp
      try with_reducible rfl
    try simp only [Act.put, List.setIfInBounds_toArray, List.set_cons_zero, List.set_cons_succ, List.getElem_toArray, List.getElem_cons_zero, List.getElem_cons_succ]
    refine wpAnyH_take (i := 10) (v := ?_) rfl (by kernel_rfl) (by kernel_rfl) (by kernel_rfl) (fun _ _ _ h => h) (Or.inl ⟨by rfl, ?_⟩) (by assumption) ?_
    rotate_left
    · intro w hSw
      (try dsimp only at hSw)
      go_simp
      try with_reducible rfl
    try simp only [Act.put, List.setIfInBounds_toArray, List.set_cons_zero, List.set_cons_succ, List.getElem_toArray, List.getElem_cons_zero, List.getElem_cons_succ]
    refine wpAnyH_take (i := 11) (v := ?_) rfl (by kernel_rfl) (by kernel_rfl) (by kernel_rfl) (fun _ _ _ h => h) (Or.inl ⟨by rfl, ?_⟩) (by assumption) ?_
    rotate_left
    · intro w hSw
      have hcell := (th_mem HT.out HU.out HV.out hSw).c28
      clear hSw
      go_simp
      try with_reducible rfl
    try simp only [Act.put, List.setIfInBounds_toArray, List.set_cons_zero, List.set_cons_succ, List.getElem_toArray, List.getElem_cons_zero, List.getElem_cons_succ]
    refine wpAnyH_take (i := 12) (v := ?_) rfl (by kernel_rfl) (by kernel_rfl) (by kernel_rfl) (fun _ _ _ h => h) (Or.inl ⟨by rfl, ?_⟩) (by assumption) ?_
    rotate_left
    · intro w hSw
      (try dsimp only at hSw)
      go_simp
      try with_reducible rfl
    try simp only [Act.put, List.setIfInBounds_toArray, List.set_cons_zero, List.set_cons_succ, List.getElem_toArray, List.getElem_cons_zero, List.getElem_cons_succ]
    have kz3 : Bk w3.drew w1.heap.size 25 ([.int .i64 k] ++ (dl t ++ (.int .i64 n :: (dl zeroD ++ [.slice A N C, .slice E O F, .bool false])))) := HP3.out.bk
    refine wpAnyH_ready (rs := [13]) (by kernel_rfl) (by simp) ?_
    refine AllReadyH.cons rfl (fun K hK => ?_) AllReadyH.nil
    rw [if_pos (by rfl)]
    refine wp_store_part _ _ _ rfl w1.heap.size 1 _ (dl u) rfl rfl rfl _ ([.int .i64 k]) (dl t) (.int .i64 n :: (dl zeroD ++ [.slice A N C, .slice E O F, .bool false])) kz3 rfl (by rw [dl_len, dl_len, HT.out.len, HU.out.len]) HU8'.out (dl_one u) ?_
    intro w4 hp4
    refine hK.out _ _ (hHeld.grown hp4.only (by intro h; injection h with h; exact HG3.out h)) (fun hHeld => ?_)
    clear hK K
    try simp only [Act.put, List.getElem_toArray, List.getElem_cons_zero, List.getElem_cons_succ]
    refine wpAnyH_take (i := 14) (v := ?_) rfl (by kernel_rfl) (by kernel_rfl) (by kernel_rfl) (fun _ _ _ h => h) (Or.inl ⟨by rfl, ?_⟩) (by assumption) ?_
    rotate_left
    · intro w hSw
      (try dsimp only at hSw)
      go_simp
      try with_reducible rfl
    try simp only [Act.put, List.setIfInBounds_toArray, List.set_cons_zero, List.set_cons_succ, List.getElem_toArray, List.getElem_cons_zero, List.getElem_cons_succ]
    have kz4 : Bk w4 w1.heap.size 25 ((.int .i64 k :: dl u) ++ ([.int .i64 n] ++ (dl zeroD ++ [.slice A N C, .slice E O F, .bool false]))) := hp4.bk
    refine wpAnyH_ready (rs := [15]) (by kernel_rfl) (by simp) ?_
    refine AllReadyH.cons rfl (fun K hK => ?_) AllReadyH.nil
    rw [if_pos (by rfl)]
    refine wp_store_part _ _ _ rfl w1.heap.size 9 _ ([.int .i64 m]) rfl rfl rfl _ (.int .i64 k :: dl u) ([.int .i64 n]) (dl zeroD ++ [.slice A N C, .slice E O F, .bool false]) kz4 (by rw [List.length_cons, dl_len, HU.out.len]) rfl HI1.out (by simp [Value.oneCell']) ?_
    intro w5 hp5
    refine hK.out _ _ (hHeld.grown hp5.only (by intro h; injection h with h; exact HG3.out h)) (fun hHeld => ?_)
    clear hK K
    try simp only [Act.put, List.getElem_toArray, List.getElem_cons_zero, List.getElem_cons_succ]
    refine wpAnyH_take (i := 16) (v := ?_) rfl (by kernel_rfl) (by kernel_rfl) (by kernel_rfl) (fun _ _ _ h => h) (Or.inl ⟨by rfl, ?_⟩) (by assumption) ?_
    rotate_left
    · intro w hSw
      (try dsimp only at hSw)
      go_simp
      try with_reducible rfl
    try simp only [Act.put, List.setIfInBounds_toArray, List.set_cons_zero, List.set_cons_succ, List.getElem_toArray, List.getElem_cons_zero, List.getElem_cons_succ]
    have kz5 : Bk w5 w1.heap.size 25 ((.int .i64 k :: (dl u ++ [.int .i64 m])) ++ (dl zeroD ++ [.slice A N C, .slice E O F, .bool false])) := by have := hp5.bk; simpa using this
    refine wpAnyH_ready (rs := [17]) (by kernel_rfl) (by simp) ?_
    refine AllReadyH.cons rfl (fun K hK => ?_) AllReadyH.nil
    rw [if_pos (by rfl)]
    refine wp_store_part _ _ _ rfl w1.heap.size 10 _ (dl v) rfl rfl rfl _ (.int .i64 k :: (dl u ++ [.int .i64 m])) (dl zeroD) ([.slice A N C, .slice E O F, .bool false]) kz5 (by simp [dl_len, HU.out.len]) (by rw [dl_len, dl_len, HV.out.len]; rfl) HV8'.out (dl_one v) ?_
    intro w6 hp6
    refine hK.out _ _ (hHeld.grown hp6.only (by intro h; injection h with h; exact HG3.out h)) (fun hHeld => ?_)
    clear hK K
    try simp only [Act.put, List.getElem_toArray, List.getElem_cons_zero, List.getElem_cons_succ]
    refine wpAnyH_take (i := 18) (v := ?_) rfl (by kernel_rfl) (by kernel_rfl) (by kernel_rfl) (fun _ _ _ h => h) (Or.inl ⟨by rfl, ?_⟩) (by assumption) ?_
    rotate_left
    · intro w hSw
      (try dsimp only at hSw)
      go_simp
      try with_reducible rfl
    try simp only [Act.put, List.setIfInBounds_toArray, List.set_cons_zero, List.set_cons_succ, List.getElem_toArray, List.getElem_cons_zero, List.getElem_cons_succ]
    have kz6 : Bk w6 w1.heap.size 25 ((.int .i64 k :: (dl u ++ (.int .i64 m :: dl v))) ++ ([.slice A N C] ++ [.slice E O F, .bool false])) := by have := hp6.bk; simpa using this
    refine wpAnyH_ready (rs := [19]) (by kernel_rfl) (by simp) ?_
    refine AllReadyH.cons rfl (fun K hK => ?_) AllReadyH.nil
    rw [if_pos (by rfl)]
    refine wp_store_part _ _ _ rfl w1.heap.size 18 _ ([.slice B M D]) rfl rfl rfl _ (.int .i64 k :: (dl u ++ (.int .i64 m :: dl v))) ([.slice A N C]) ([.slice E O F, .bool false]) kz6 (by simp [dl_len, HU.out.len, HV.out.len]) rfl HI2.out (by simp [Value.oneCell']) ?_
    intro w7 hp7
    refine hK.out _ _ (hHeld.grown hp7.only (by intro h; injection h with h; exact HG3.out h)) (fun hHeld => ?_)
    clear hK K
    try simp only [Act.put, List.getElem_toArray, List.getElem_cons_zero, List.getElem_cons_succ]
    refine wpAnyH_done (by kernel_rfl) ?_ _
    have kz7 : Bk w7 w1.heap.size 25 (rtC k m u v (.slice B M D) (.slice E O F) false) := by have := hp7.bk; simpa [rtC] using this
    have hgr : w3.drew.grownBy w7 (some w1.heap.size) := only_trans hp4.only (only_trans hp5.only (only_trans hp6.only hp7.only))
    have hB7 : Below w1.heap.size w1 w7 := ((((below_new w1 _).grown HP3.out.only (by simp) (fun q hq => by injection hq with hq; omega)).drew).grown hgr (by have := HP3.out.size; simp at this ⊢; omega) (fun q hq => by injection hq with hq; omega))
    have kr7 := HKZ.out.later hB7
    have HKZ7 := Lib.hid kz7; have HB7 := Lib.hid hB7; have HKR7 := Lib.hid kr7
    clear hHeld kz3 kz4 kz5 kz6 kz7 hp4 hp5 hp6 hp7 hgr hB7 kr7
    have HQS' : Hid ((Try.prog.info? 25).map (·.size) = some (rtC k m u v (.slice B M D) (.slice E O F) false).length) := by show _ = _; rw [rtC_len HU.out HV.out]; exact rt_size
    have HQL : Hid ((rtC 0 0 zeroD zeroD (.slice none 0 0) (.slice none 0 0) false).length = (rtC k m u v (.slice B M D) (.slice E O F) false).length) := by show _ = _; rw [rtC_len HU.out HV.out]; rfl
    go_wp2_with (first
      | (with_reducible refine wpList_load_bk rfl 25 _ rfl w1.heap.size rfl (rtC k m u v (.slice B M D) (.slice E O F) false) 25 HKZ7.out _ Try.underlying25 rfl HQS'.out ?_)
      | (refine wpList_store_bk rfl 25 _ _ rfl (w.heap.size + 1) (rtC k m u v (.slice B M D) (.slice E O F) false) rfl rfl 25 _ HKR7.out HQS'.out HQL.out rt_one ?_; intro w8 hp8; have HP8 := Lib.hid hp8; clear hp8))
    refine bodyPost_ret (results_cell_bk (p := 2) (ty := 25) rfl _ _ (w.heap.size + 1) 25 _ _ rfl HP8.out.bk Try.underlying25 rfl HQS'.out) rfl ?_
    exact ⟨rfl, below_only (below_then HB.out HB7.out) HP8.out.only (Nat.le_trans HB.out.size HB7.out.size) (by omega)⟩
  · have hk1 : (k == 1) = false := by simp [hk]
    rw [if_neg hk]
    clear hk
    go_enter Try.func23, Try.ntmps23
    go_upto_region 1 with fail
    rw [z_rt, HZ.out, HW.out]
    go_wp2_with (first
      | (with_reducible refine wpList_load_mid rfl 29 _ rfl w.heap.size 1 rfl (dl t) _ HM.out.r1 Try.underlying29 rfl hsz.out ?_)
      | (with_reducible refine wpList_build rfl 25 _ rfl #[(0, .int .i64 k), (1, .agg (dl t).toArray), (2, .int .i64 n), (4, .slice A N C), (5, .slice E O F)] (by simp [Act.eval]) (.agg (rtC k n t zeroD (.slice A N C) (.slice E O F) false).toArray) (HBD.out _) ?_)
      | (with_reducible refine wpList_load_bk rfl 25 _ rfl w1.heap.size rfl (rtC k n t zeroD (.slice A N C) (.slice E O F) false) 25 HP3.out.bk _ Try.underlying25 rfl HYS.out ?_)
      | (refine wpList_store_bk rfl 25 _ _ rfl w1.heap.size (rtC k n t zeroD (.slice A N C) (.slice E O F) false) rfl rfl 25 _ HZ3.out HYS.out HYL.out rt_one ?_; intro w3 hp3; have hb3 : Below w1.heap.size w1 w3 := (below_new w1 _).grown hp3.only (by simp) (fun q hq => by injection hq with hq; omega); have kx3 := HKX3.out.grown hp3.only (by have := HZ1.out; intro h; injection h; omega); have hm3 := th_mem HT.out HU.out HV.out kx3; have d0 := hm3.c0; have HP3 := Lib.hid hp3; have HB3 := Lib.hid hb3; have HKR3 := Lib.hid (HKZ.out.later hb3); clear hp3 hm3 kx3 hb3)
      | (refine wpList_store_bk rfl 25 _ _ rfl (w.heap.size + 1) (rtC k n t zeroD (.slice A N C) (.slice E O F) false) rfl rfl 25 _ HKR3.out HYS.out HYL.out rt_one ?_; intro w8 hp8; have HP8 := Lib.hid hp8; clear hp8))
    refine bodyPost_ret (results_cell_bk (p := 2) (ty := 25) rfl _ _ (w.heap.size + 1) 25 _ _ rfl HP8.out.bk Try.underlying25 rfl HYS.out) rfl ?_
    exact ⟨rfl, below_only (below_then HB.out HB3.out) HP8.out.only (Nat.le_trans HB.out.size HB3.out.size) (by omega)⟩
end Go.Proofs.Ythibihjblodfmaa
