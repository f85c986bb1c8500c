/- A deed's thing, signed: the walk. -/
import Derived.Test.YthibihjblodfmaaUB
namespace Go.Proofs.Ythibihjblodfmaa
open Go.RowKit Go.Maps

def zTh : List Value := thC 0 0 0 zeroD zeroD zeroD (.slice none 0 0) (.slice none 0 0) (.slice none 0 0)
/-- What stands while a deed is signed. -/
structure SG (w1 w wk : World) (z lo g : Nat) (ca : List Value) (es : List Ent) : Prop where
  d : Bk wk z 70 ca
  o : Bk wk (z + 1) 35 zTh
  bk : BookAt wk lo g es
  hb : Below lo w wk
  hk : Keeps w wk
  h1 : Below w1.heap.size w1 wk
  lh : lo ≤ wk.heap.size
  wz : w.heap.size ≤ z
  wl : w1.heap.size ≤ lo
  lw : lo ≤ w.heap.size
theorem Keeps.touch {w wk wn : World} {q : Nat} (h : Keeps w wk) (hg : wk.grownBy wn (some q)) (hq : w.heap.size ≤ q) : Keeps w wn :=
  ⟨Nat.le_trans h.size hg.size, fun i cs t fr hi h1 h2 => by
    have hlt := (Array.getElem?_eq_some_iff.1 hi).1
    rw [hg.block i (Nat.lt_of_lt_of_le hlt h.size) (by intro e; injection e with e; omega)]
    exact h.blk i cs t fr hi h1 h2⟩
section
variable {w1 w wk wn : World} {z lo g gt : Nat} {ca : List Value} {es : List Ent}
theorem SG.later (h : SG w1 w wk z lo g ca es) (hb : Below wk.heap.size wk wn) : SG w1 w wn z lo g ca es :=
  ⟨h.d.later hb, h.o.later hb, h.bk.later hb, h.hb.trans (hb.mono h.lh), h.hk.trans (Keeps.of_below hb), below_then h.h1 hb, Nat.le_trans h.lh hb.size, h.wz, h.wl, h.lw⟩
theorem SG.sign (h : SG w1 w wk z lo g ca es) {es' : List Ent} (hk : Keeps wk wn) (hb : Below lo wk wn) (hbk : BookAt wn lo g es') : SG w1 w wn z lo g ca es' :=
  ⟨h.d.keeps hk (by decide) (by decide), h.o.keeps hk (by decide) (by decide), hbk, h.hb.trans hb, h.hk.trans hk, h.h1.trans (hb.mono h.wl), Nat.le_trans h.lh hb.size, h.wz, h.wl, h.lw⟩
theorem SG.put (h : SG w1 w wk z lo g ca es) {xs ys : List Value} (hp : Put wk wn gt 35 ys) (hx : Bk wk gt 35 xs) (hz : z + 1 < gt) : SG w1 w wn z lo g ca es := by
  have a1 := h.wz; have a2 := h.wl; have a3 := h.lw
  exact ⟨h.d.grown hp.only (by intro e; injection e with e; omega), h.o.grown hp.only (by intro e; injection e with e; omega), h.bk.put hp hx (by decide) (by decide), below_only h.hb hp.only h.lh (by omega), h.hk.touch hp.only (by omega), below_only h.h1 hp.only h.h1.size (by omega), Nat.le_trans h.lh hp.only.size, h.wz, h.wl, h.lw⟩
end
theorem toT_sig' (R : RtT) (s : List Int) : { toT R with ss := s } = toT { R with ss := s } := by unfold toT; split <;> rfl
theorem dgT_sig (T : Tg) (s : List Int) : dgT { T with ss := s } = dgT T := rfl
theorem SG.own {w1 w wk wn : World} {z lo g n : Nat} {ca : List Value} {es : List Ent} (h : SG w1 w wk z lo g ca es) {v : Value} {xs : List Value} (ho : wk.ownsRow w.heap.size 5 1 v n xs) (hg : wk.grownBy wn v.ownBlock) : SG w1 w wn z lo g ca es := by
  have hk : Keeps w wn := by
    rcases own_bk ho with ⟨rfl, _⟩ | ⟨q, cap, ys, rfl, hq, _⟩
    · exact ⟨Nat.le_trans h.hk.size hg.size, fun i cs t fr hi h1 h2 => by
        have hlt := (Array.getElem?_eq_some_iff.1 hi).1
        rw [hg.block i (Nat.lt_of_lt_of_le hlt h.hk.size) (by simp [Value.ownBlock])]
        exact h.hk.blk i cs t fr hi h1 h2⟩
    · exact h.hk.touch hg hq
  exact ⟨h.d.grown hg (Ne.symm (own_bk_ne ho h.d (by decide))), h.o.grown hg (Ne.symm (own_bk_ne ho h.o (by decide))), h.bk.own ho hg (by decide) (by decide), grown_below h.hb ho hg h.lw h.lh, hk, grown_below h.h1 ho hg (Nat.le_trans h.wl h.lw) h.h1.size, Nat.le_trans h.lh hg.size, h.wz, h.wl, h.lw⟩
theorem sign_ret {w : World} {g : Nat} {cs : List Value} (h : Bk w g 35 cs) (hi : (Try.prog.info? 35).map (·.size) = some cs.length) (tmps : Array Value) (h4 : tmps.getD 4 undef = .pointer (some ⟨g, 0, none⟩)) :
    (results Try.f38 tmps).run Try.prog w = .ok (.agg cs.toArray) w := by
  have r1 : w.rangeAt g 0 cs := Bk.range (pre := []) (post := []) (by simpa using h) rfl
  have l1 := run_loadVar_mid (P := Try.prog) w g 0 35 cs _ r1 Try.underlying35 rfl hi
  rw [Array.getD_eq_getD_getElem?] at h4
  simp [results, Try.results38, h4, asAddr, l1]
set_option maxRecDepth 20000 in
set_option maxHeartbeats 8000000 in
theorem dsign_any (w1 w : World) (lo g : Nat) (es : List Ent) (hbk : BookAt w lo g es) (hel : es.length < 65536) (hlo : lo ≤ w.heap.size) (h1 : Below w1.heap.size w1 w) (hl1 : w1.heap.size ≤ lo) (D : DeT) (A : Option Addr) (N C : Nat) (hd : DeOk w1 D A N) :
    Calls Try.prog 38 #[.agg (deC D (.slice A N C)).toArray, .pointer (some ⟨g, 0, none⟩)] w fun e w' =>
      (∃ cs, e = .returned (.agg cs.toArray) ∧ ThK w1 w' cs (deT D es)) ∧ BookAt w' lo g (bookS es (deE D)) ∧ Below lo w w' ∧ Keeps w w' := by
  obtain ⟨ca, hca⟩ : ∃ c, deC D (.slice A N C) = c := ⟨_, rfl⟩
  have HDM : Hid (∀ w' g', Bk w' g' 70 ca → DeM w' g' D (.slice A N C)) := fun w' g' h' => by rw [← hca] at h'; exact de_mem h'
  rw [hca]
  obtain ⟨X, hX⟩ : ∃ X, ca.toArray = X := ⟨_, rfl⟩
  obtain ⟨z, hz⟩ : ∃ z, w.heap.size = z := ⟨_, rfl⟩
  obtain ⟨w2, hw2⟩ : ∃ w2, (w.alloc (.cells X 70)).alloc (.cells #[.int .i64 0, .int .u8 0, .int .u8 0, .int .u8 0, .int .u8 0, .int .u8 0, .int .u8 0, .int .u8 0, .int .u8 0, .int .i64 0, .slice none 0 0, .int .u8 0, .int .u8 0, .int .u8 0, .int .u8 0, .int .u8 0, .int .u8 0, .int .u8 0, .int .u8 0, .int .i64 0, .int .u8 0, .int .u8 0, .int .u8 0, .int .u8 0, .int .u8 0, .int .u8 0, .int .u8 0, .int .u8 0, .slice none 0 0, .slice none 0 0] 35) = w2 := ⟨_, rfl⟩
  have hb2 : Below w.heap.size w w2 := hw2 ▸ (below_new w _).alloc (by simp) _
  have k1 : Bk w2 z 70 ca := hw2 ▸ (Bk.at_ w _ X hz (by rw [← hX])).alloc _
  have k2 : Bk w2 (z + 1) 35 zTh := hw2 ▸ Bk.at_ _ _ #[.int .i64 0, .int .u8 0, .int .u8 0, .int .u8 0, .int .u8 0, .int .u8 0, .int .u8 0, .int .u8 0, .int .u8 0, .int .i64 0, .slice none 0 0, .int .u8 0, .int .u8 0, .int .u8 0, .int .u8 0, .int .u8 0, .int .u8 0, .int .u8 0, .int .u8 0, .int .i64 0, .int .u8 0, .int .u8 0, .int .u8 0, .int .u8 0, .int .u8 0, .int .u8 0, .int .u8 0, .int .u8 0, .slice none 0 0, .slice none 0 0] (by simp [hz]) rfl
  have HSG2 : Hid (SG w1 w w2 z lo g ca es) := ⟨k1, k2, hbk.later hb2, hb2.mono hlo, Keeps.of_below hb2, below_then h1 hb2, Nat.le_trans hlo hb2.size, Nat.le_of_eq hz, hl1, hlo⟩
  have HW := Lib.hid hw2; have HDE := Lib.hid hd; have HEL := Lib.hid hel
  rw [hX]
  clear hca hX hw2 hb2 k1 k2 hbk hel hlo h1 hl1 hd
  go_enter Try.func38, Try.ntmps38
  go_upto_region 1 with fail
  rw [HW.out]
  try simp only [Act.put, List.setIfInBounds_toArray, List.set_cons_zero, List.set_cons_succ, List.getElem_toArray, List.getElem_cons_zero, List.getElem_cons_succ]
  go_cut [5] (fun p wx => ∃ (gt : Nat) (pre : List Value), p = .pointer (some ⟨gt, 0, none⟩) ∧ Hid (SG w1 w wx z lo g ca es) ∧ Hid (Bk wx gt 35 (pre ++ [Value.slice none 0 0])) ∧ Hid (PreT w1 pre (deR D)) ∧ Hid (z + 1 < gt))
  case first =>
    refine wp_region_held_drew (S := fun w' => Bk w' z 70 ca) (by kernel_rfl) (Bk.drew HSG2.out.d) (fun hHeld => ?_)
    have hbd : Below w2.heap.size w2 w2.drew := below_draws w2 w2.heap.size 1
    obtain ⟨ws, hws⟩ : ∃ ws, w2.drew = ws := ⟨_, rfl⟩
    rw [hws] at hbd hHeld ⊢
    have HSG := Lib.hid (HSG2.out.later hbd)
    clear hws hbd HSG2
    have hpm : IntKind.u8.wrap (D.pl.tmod 2) = D.pl % 2 := by have h0 := HDE.out.p0; have h1 := HDE.out.p1; rw [wrap_u8', Int.tmod_eq_emod_of_nonneg (by omega)]; omega
    have hpn : D.pl.tmod 2 = D.pl % 2 := by have h0 := HDE.out.p0; rw [Int.tmod_eq_emod_of_nonneg (by omega)]
    refine wpAnyH_take (i := 0) (v := ?_) rfl (by kernel_rfl) (by kernel_rfl) (by kernel_rfl) (fun _ _ _ h => h) (Or.inl ⟨by rfl, ?_⟩) (by assumption) ?_
    rotate_left
    · intro w hSw
      (try dsimp only at hSw)
      go_simp
      try with_reducible rfl
    try simp only [Act.put, List.setIfInBounds_toArray, List.set_cons_zero, List.set_cons_succ, List.getElem_toArray, List.getElem_cons_zero, List.getElem_cons_succ]
    refine wpAnyH_take (i := 5) (v := ?_) rfl (by kernel_rfl) (by kernel_rfl) (by kernel_rfl) (fun _ _ _ h => h) (Or.inl ⟨by rfl, ?_⟩) (by assumption) ?_
    rotate_left
    · intro w hSw
      (try dsimp only at hSw)
      go_simp
      try with_reducible rfl
    try simp only [Act.put, List.setIfInBounds_toArray, List.set_cons_zero, List.set_cons_succ, List.getElem_toArray, List.getElem_cons_zero, List.getElem_cons_succ]
    refine wpAnyH_take (i := 8) (v := ?_) rfl (by kernel_rfl) (by kernel_rfl) (by kernel_rfl) (fun _ _ _ h => h) (Or.inl ⟨by rfl, ?_⟩) (by assumption) ?_
    rotate_left
    · intro w hSw
      (try dsimp only at hSw)
      go_simp
      try with_reducible rfl
    try simp only [Act.put, List.setIfInBounds_toArray, List.set_cons_zero, List.set_cons_succ, List.getElem_toArray, List.getElem_cons_zero, List.getElem_cons_succ]
    refine wpAnyH_take (i := 10) (v := ?_) rfl (by kernel_rfl) (by kernel_rfl) (by kernel_rfl) (fun _ _ _ h => h) (Or.inl ⟨by rfl, ?_⟩) (by assumption) ?_
    rotate_left
    · intro w hSw
      (try dsimp only at hSw)
      go_simp
      try with_reducible rfl
    try simp only [Act.put, List.setIfInBounds_toArray, List.set_cons_zero, List.set_cons_succ, List.getElem_toArray, List.getElem_cons_zero, List.getElem_cons_succ]
    refine wpAnyH_take (i := 14) (v := ?_) rfl (by kernel_rfl) (by kernel_rfl) (by kernel_rfl) (fun _ _ _ h => h) (Or.inl ⟨by rfl, ?_⟩) (by assumption) ?_
    rotate_left
    · intro w hSw
      (try dsimp only at hSw)
      go_simp
      try with_reducible rfl
    try simp only [Act.put, List.setIfInBounds_toArray, List.set_cons_zero, List.set_cons_succ, List.getElem_toArray, List.getElem_cons_zero, List.getElem_cons_succ]
    refine wpAnyH_take (i := 1) (v := ?_) rfl (by kernel_rfl) (by kernel_rfl) (by kernel_rfl) (fun _ _ _ h => h) (Or.inl ⟨by rfl, ?_⟩) (by assumption) ?_
    rotate_left
    · intro w hSw
      have hcell := (HDM.out w z hSw).c1
      clear hSw
      go_simp
      try with_reducible rfl
    try simp only [Act.put, List.setIfInBounds_toArray, List.set_cons_zero, List.set_cons_succ, List.getElem_toArray, List.getElem_cons_zero, List.getElem_cons_succ]
    refine wpAnyH_take (i := 6) (v := ?_) rfl (by kernel_rfl) (by kernel_rfl) (by kernel_rfl) (fun _ _ _ h => h) (Or.inl ⟨by rfl, ?_⟩) (by assumption) ?_
    rotate_left
    · intro w hSw
      have hcell := (HDM.out w z hSw).c4
      clear hSw
      go_simp
      try with_reducible rfl
    try simp only [Act.put, List.setIfInBounds_toArray, List.set_cons_zero, List.set_cons_succ, List.getElem_toArray, List.getElem_cons_zero, List.getElem_cons_succ]
    refine wpAnyH_take (i := 9) (v := ?_) rfl (by kernel_rfl) (by kernel_rfl) (by kernel_rfl) (fun _ _ _ h => h) (Or.inl ⟨by rfl, ?_⟩) (by assumption) ?_
    rotate_left
    · intro w hSw
      have hcell := (HDM.out w z hSw).c2
      clear hSw
      go_simp
      try with_reducible rfl
    try simp only [Act.put, List.setIfInBounds_toArray, List.set_cons_zero, List.set_cons_succ, List.getElem_toArray, List.getElem_cons_zero, List.getElem_cons_succ]
    refine wpAnyH_take (i := 11) (v := ?_) rfl (by kernel_rfl) (by kernel_rfl) (by kernel_rfl) (fun _ _ _ h => h) (Or.inl ⟨by rfl, ?_⟩) (by assumption) ?_
    rotate_left
    · intro w hSw
      have hcell := (HDM.out w z hSw).c5
      clear hSw
      go_simp
      try with_reducible rfl
    try simp only [Act.put, List.setIfInBounds_toArray, List.set_cons_zero, List.set_cons_succ, List.getElem_toArray, List.getElem_cons_zero, List.getElem_cons_succ]
    refine wpAnyH_take (i := 15) (v := ?_) rfl (by kernel_rfl) (by kernel_rfl) (by kernel_rfl) (fun _ _ _ h => h) (Or.inl ⟨by rfl, ?_⟩) (by assumption) ?_
    rotate_left
    · intro w hSw
      have hcell := (HDM.out w z hSw).c3
      clear hSw
      go_simp
      try with_reducible rfl
    try simp only [Act.put, List.setIfInBounds_toArray, List.set_cons_zero, List.set_cons_succ, List.getElem_toArray, List.getElem_cons_zero, List.getElem_cons_succ]
    refine wpAnyH_take (i := 2) (v := ?_) rfl (by kernel_rfl) (by kernel_rfl) (by kernel_rfl) (fun _ _ _ h => h) (Or.inl ⟨by rfl, ?_⟩) (by assumption) ?_
    rotate_left
    · intro w hSw
      (try dsimp only at hSw)
      go_simp
      try with_reducible rfl
    try simp only [Act.put, List.setIfInBounds_toArray, List.set_cons_zero, List.set_cons_succ, List.getElem_toArray, List.getElem_cons_zero, List.getElem_cons_succ]
    refine wpAnyH_take (i := 12) (v := ?_) rfl (by kernel_rfl) (by kernel_rfl) (by kernel_rfl) (fun _ _ _ h => h) (Or.inl ⟨by rfl, ?_⟩) (by assumption) ?_
    rotate_left
    · intro w hSw
      (try dsimp only at hSw)
      go_simp
      try with_reducible rfl
    try simp only [Act.put, List.setIfInBounds_toArray, List.set_cons_zero, List.set_cons_succ, List.getElem_toArray, List.getElem_cons_zero, List.getElem_cons_succ]
    refine wpAnyH_take (i := 3) (v := ?_) rfl (by kernel_rfl) (by kernel_rfl) (by kernel_rfl) (fun _ _ _ h => h) (Or.inl ⟨by rfl, ?_⟩) (by assumption) ?_
    rotate_left
    · intro w hSw
      (try dsimp only at hSw)
      go_simp
      try with_reducible rfl
    try simp only [Act.put, List.setIfInBounds_toArray, List.set_cons_zero, List.set_cons_succ, List.getElem_toArray, List.getElem_cons_zero, List.getElem_cons_succ]
    refine wpAnyH_take (i := 4) (v := ?_) rfl (by kernel_rfl) (by kernel_rfl) (by kernel_rfl) (fun _ _ _ h => h) (Or.inl ⟨by rfl, ?_⟩) (by assumption) ?_
    rotate_left
    · intro w hSw
      have hcell := kind_run D.kind
      clear hSw
      go_simp
      try with_reducible rfl
    try simp only [Act.put, List.setIfInBounds_toArray, List.set_cons_zero, List.set_cons_succ, List.getElem_toArray, List.getElem_cons_zero, List.getElem_cons_succ]
    clear hpm hpn
    refine wpAnyH_take (i := 13) (v := .agg (List.toArray (dl (plD D.pl)))) rfl (by kernel_rfl) (by kernel_rfl) (by kernel_rfl) (fun _ _ _ h => h) (yieldsIf_build (by rfl) _ _ rfl #[(0, .int .u8 (D.pl % 2))] (by simp [Act.eval]) _ (build_d8 (D.pl % 2))) (by assumption) ?_
    try simp only [Act.put, List.setIfInBounds_toArray, List.set_cons_zero, List.set_cons_succ, List.getElem_toArray, List.getElem_cons_zero, List.getElem_cons_succ]
    refine wpAnyH_ready (rs := [7, 18]) (by kernel_rfl) (by simp) ?_
    refine AllReadyH.cons rfl (fun K hK => ?_) ?_
    ·
      go_simp
      go_at_call 39
      refine (table_any ws D.tb).mono ?_
      rintro e wst ⟨rfl, hbn⟩
      have HSGt := Lib.hid (HSG.out.later hbn)
      clear hbn
      refine hK.out _ _ HSGt.out.d (fun hHeld => ?_)
      clear hK K
      try simp only [Act.put, List.setIfInBounds_toArray, List.set_cons_zero, List.set_cons_succ, List.getElem_toArray, List.getElem_cons_zero, List.getElem_cons_succ]
      refine wpAnyH_take (i := 16) (v := .agg (List.toArray (rtC (D.kind % 2) D.n (tabD D.tb) (plD D.pl) (.slice A N C) (.slice none 0 0) false))) rfl (by kernel_rfl) (by kernel_rfl) (by kernel_rfl) (fun _ _ _ h => h) (yieldsIf_build (by rfl) _ _ rfl #[(0, .int .i64 (D.kind % 2)), (1, .agg (dl (tabD D.tb)).toArray), (2, .int .i64 D.n), (3, .agg (dl (plD D.pl)).toArray), (4, .slice A N C)] (by simp [Act.eval]) _ (build_rt5 (D.kind % 2) D.n (tabD D.tb) (plD D.pl) (tabD_ok _) (plD_ok _) A N C)) (by assumption) ?_
      try simp only [Act.put, List.setIfInBounds_toArray, List.set_cons_zero, List.set_cons_succ, List.getElem_toArray, List.getElem_cons_zero, List.getElem_cons_succ]
      refine wpAnyH_ready (rs := [17, 18]) (by kernel_rfl) (by simp) ?_
      refine AllReadyH.cons rfl (fun K hK => ?_) ?_
      ·
        go_simp
        go_at_call 17
        refine (ofP HDE.out C).mono ?_
        rintro e wsto ⟨⟨pre, rfl, hpre⟩, hbn⟩
        have HPR := Lib.hid hpre
        clear hpre
        have HSGto := Lib.hid (HSGt.out.later hbn)
        clear hbn
        refine hK.out _ _ HSGto.out.d (fun hHeld => ?_)
        clear hK K
        try simp only [Act.put, List.setIfInBounds_toArray, List.set_cons_zero, List.set_cons_succ, List.getElem_toArray, List.getElem_cons_zero, List.getElem_cons_succ]
        refine wpAnyH_ready (rs := [18]) (by kernel_rfl) (by simp) ?_
        refine AllReadyH.cons rfl (fun K hK => ?_) ?_
        ·
          go_simp
          obtain ⟨gt, hgt⟩ : ∃ g, wsto.heap.size = g := ⟨_, rfl⟩
          obtain ⟨wstoa, hwstoa⟩ : ∃ w', wsto.alloc (.cells #[.int .i64 0, .int .u8 0, .int .u8 0, .int .u8 0, .int .u8 0, .int .u8 0, .int .u8 0, .int .u8 0, .int .u8 0, .int .i64 0, .slice none 0 0, .int .u8 0, .int .u8 0, .int .u8 0, .int .u8 0, .int .u8 0, .int .u8 0, .int .u8 0, .int .u8 0, .int .i64 0, .int .u8 0, .int .u8 0, .int .u8 0, .int .u8 0, .int .u8 0, .int .u8 0, .int .u8 0, .int .u8 0, .slice none 0 0, .slice none 0 0] 35) = w' := ⟨_, rfl⟩
          have hbn : Below wsto.heap.size wsto wstoa := hwstoa ▸ below_new wsto _
          have HGtoa : Hid (Bk wstoa gt 35 zTh) := by show Bk _ _ _ _; rw [← hwstoa]; exact Bk.at_ wsto _ _ hgt rfl
          have HLT : Hid (z + 1 < gt) := by show _ < _; rw [← hgt]; exact HSGto.out.o.lt
          rw [hgt, hwstoa]
          clear hgt hwstoa
          have HSGtoa := Lib.hid (HSGto.out.later hbn)
          clear hbn
          refine hK.out _ _ HSGtoa.out.d (fun hHeld => ?_)
          clear hK K
          try simp only [Act.put, List.setIfInBounds_toArray, List.set_cons_zero, List.set_cons_succ, List.getElem_toArray, List.getElem_cons_zero, List.getElem_cons_succ]
          refine wpAnyH_ready (rs := [19]) (by kernel_rfl) (by simp) ?_
          refine AllReadyH.cons rfl (fun K hK => ?_) AllReadyH.nil
          rw [if_pos (by rfl)]
          refine wp_store_part _ _ _ rfl gt 0 _ ((pre ++ [Value.slice none 0 0])) rfl rfl rfl _ ([]) (zTh) ([]) (by simpa using HGtoa.out) rfl (by rw [(HPR.out.nil w).len]; rfl) ((HPR.out.nil w).info) (HPR.out.nil w).one ?_
          intro wy hp
          refine hK.out _ _ (HSGtoa.out.put hp HGtoa.out HLT.out).d (fun hHeld => ?_)
          clear hK K
          try simp only [Act.put, List.setIfInBounds_toArray, List.set_cons_zero, List.set_cons_succ, List.getElem_toArray, List.getElem_cons_zero, List.getElem_cons_succ]
          refine wpAnyH_done (by kernel_rfl) ?_ _
          have KT : Hid (Bk wy gt 35 (pre ++ [Value.slice none 0 0])) := by show Bk _ _ _ _; have := hp.bk; simpa using this
          have KS := Lib.hid (HSGtoa.out.put hp HGtoa.out HLT.out)
          clear hp hHeld
          go_wp2_with fail
          go_meet
          exact ⟨gt, pre, rfl, KS, KT, HPR, HLT⟩
        exact AllReadyH.nil
      refine AllReadyH.cons rfl (fun K hK => ?_) ?_
      ·
        go_simp
        obtain ⟨gt, hgt⟩ : ∃ g, wst.heap.size = g := ⟨_, rfl⟩
        obtain ⟨wsta, hwsta⟩ : ∃ w', wst.alloc (.cells #[.int .i64 0, .int .u8 0, .int .u8 0, .int .u8 0, .int .u8 0, .int .u8 0, .int .u8 0, .int .u8 0, .int .u8 0, .int .i64 0, .slice none 0 0, .int .u8 0, .int .u8 0, .int .u8 0, .int .u8 0, .int .u8 0, .int .u8 0, .int .u8 0, .int .u8 0, .int .i64 0, .int .u8 0, .int .u8 0, .int .u8 0, .int .u8 0, .int .u8 0, .int .u8 0, .int .u8 0, .int .u8 0, .slice none 0 0, .slice none 0 0] 35) = w' := ⟨_, rfl⟩
        have hbn : Below wst.heap.size wst wsta := hwsta ▸ below_new wst _
        have HGta : Hid (Bk wsta gt 35 zTh) := by show Bk _ _ _ _; rw [← hwsta]; exact Bk.at_ wst _ _ hgt rfl
        have HLT : Hid (z + 1 < gt) := by show _ < _; rw [← hgt]; exact HSGt.out.o.lt
        rw [hgt, hwsta]
        clear hgt hwsta
        have HSGta := Lib.hid (HSGt.out.later hbn)
        clear hbn
        refine hK.out _ _ HSGta.out.d (fun hHeld => ?_)
        clear hK K
        try simp only [Act.put, List.setIfInBounds_toArray, List.set_cons_zero, List.set_cons_succ, List.getElem_toArray, List.getElem_cons_zero, List.getElem_cons_succ]
        refine wpAnyH_ready (rs := [17]) (by kernel_rfl) (by simp) ?_
        refine AllReadyH.cons rfl (fun K hK => ?_) ?_
        ·
          go_simp
          go_at_call 17
          refine (ofP HDE.out C).mono ?_
          rintro e wstao ⟨⟨pre, rfl, hpre⟩, hbn⟩
          have HPR := Lib.hid hpre
          clear hpre
          have HSGtao := Lib.hid (HSGta.out.later hbn)
          have HGtao := Lib.hid (HGta.out.later hbn)
          clear hbn
          refine hK.out _ _ HSGtao.out.d (fun hHeld => ?_)
          clear hK K
          try simp only [Act.put, List.setIfInBounds_toArray, List.set_cons_zero, List.set_cons_succ, List.getElem_toArray, List.getElem_cons_zero, List.getElem_cons_succ]
          refine wpAnyH_ready (rs := [19]) (by kernel_rfl) (by simp) ?_
          refine AllReadyH.cons rfl (fun K hK => ?_) AllReadyH.nil
          rw [if_pos (by rfl)]
          refine wp_store_part _ _ _ rfl gt 0 _ ((pre ++ [Value.slice none 0 0])) rfl rfl rfl _ ([]) (zTh) ([]) (by simpa using HGtao.out) rfl (by rw [(HPR.out.nil w).len]; rfl) ((HPR.out.nil w).info) (HPR.out.nil w).one ?_
          intro wy hp
          refine hK.out _ _ (HSGtao.out.put hp HGtao.out HLT.out).d (fun hHeld => ?_)
          clear hK K
          try simp only [Act.put, List.setIfInBounds_toArray, List.set_cons_zero, List.set_cons_succ, List.getElem_toArray, List.getElem_cons_zero, List.getElem_cons_succ]
          refine wpAnyH_done (by kernel_rfl) ?_ _
          have KT : Hid (Bk wy gt 35 (pre ++ [Value.slice none 0 0])) := by show Bk _ _ _ _; have := hp.bk; simpa using this
          have KS := Lib.hid (HSGtao.out.put hp HGtao.out HLT.out)
          clear hp hHeld
          go_wp2_with fail
          go_meet
          exact ⟨gt, pre, rfl, KS, KT, HPR, HLT⟩
        exact AllReadyH.nil
      exact AllReadyH.nil
    refine AllReadyH.cons rfl (fun K hK => ?_) ?_
    ·
      go_simp
      obtain ⟨gt, hgt⟩ : ∃ g, ws.heap.size = g := ⟨_, rfl⟩
      obtain ⟨wsa, hwsa⟩ : ∃ w', ws.alloc (.cells #[.int .i64 0, .int .u8 0, .int .u8 0, .int .u8 0, .int .u8 0, .int .u8 0, .int .u8 0, .int .u8 0, .int .u8 0, .int .i64 0, .slice none 0 0, .int .u8 0, .int .u8 0, .int .u8 0, .int .u8 0, .int .u8 0, .int .u8 0, .int .u8 0, .int .u8 0, .int .i64 0, .int .u8 0, .int .u8 0, .int .u8 0, .int .u8 0, .int .u8 0, .int .u8 0, .int .u8 0, .int .u8 0, .slice none 0 0, .slice none 0 0] 35) = w' := ⟨_, rfl⟩
      have hbn : Below ws.heap.size ws wsa := hwsa ▸ below_new ws _
      have HGa : Hid (Bk wsa gt 35 zTh) := by show Bk _ _ _ _; rw [← hwsa]; exact Bk.at_ ws _ _ hgt rfl
      have HLT : Hid (z + 1 < gt) := by show _ < _; rw [← hgt]; exact HSG.out.o.lt
      rw [hgt, hwsa]
      clear hgt hwsa
      have HSGa := Lib.hid (HSG.out.later hbn)
      clear hbn
      refine hK.out _ _ HSGa.out.d (fun hHeld => ?_)
      clear hK K
      try simp only [Act.put, List.setIfInBounds_toArray, List.set_cons_zero, List.set_cons_succ, List.getElem_toArray, List.getElem_cons_zero, List.getElem_cons_succ]
      refine wpAnyH_ready (rs := [7]) (by kernel_rfl) (by simp) ?_
      refine AllReadyH.cons rfl (fun K hK => ?_) ?_
      ·
        go_simp
        go_at_call 39
        refine (table_any wsa D.tb).mono ?_
        rintro e wsat ⟨rfl, hbn⟩
        have HSGat := Lib.hid (HSGa.out.later hbn)
        have HGat := Lib.hid (HGa.out.later hbn)
        clear hbn
        refine hK.out _ _ HSGat.out.d (fun hHeld => ?_)
        clear hK K
        try simp only [Act.put, List.setIfInBounds_toArray, List.set_cons_zero, List.set_cons_succ, List.getElem_toArray, List.getElem_cons_zero, List.getElem_cons_succ]
        refine wpAnyH_take (i := 16) (v := .agg (List.toArray (rtC (D.kind % 2) D.n (tabD D.tb) (plD D.pl) (.slice A N C) (.slice none 0 0) false))) rfl (by kernel_rfl) (by kernel_rfl) (by kernel_rfl) (fun _ _ _ h => h) (yieldsIf_build (by rfl) _ _ rfl #[(0, .int .i64 (D.kind % 2)), (1, .agg (dl (tabD D.tb)).toArray), (2, .int .i64 D.n), (3, .agg (dl (plD D.pl)).toArray), (4, .slice A N C)] (by simp [Act.eval]) _ (build_rt5 (D.kind % 2) D.n (tabD D.tb) (plD D.pl) (tabD_ok _) (plD_ok _) A N C)) (by assumption) ?_
        try simp only [Act.put, List.setIfInBounds_toArray, List.set_cons_zero, List.set_cons_succ, List.getElem_toArray, List.getElem_cons_zero, List.getElem_cons_succ]
        refine wpAnyH_ready (rs := [17]) (by kernel_rfl) (by simp) ?_
        refine AllReadyH.cons rfl (fun K hK => ?_) ?_
        ·
          go_simp
          go_at_call 17
          refine (ofP HDE.out C).mono ?_
          rintro e wsato ⟨⟨pre, rfl, hpre⟩, hbn⟩
          have HPR := Lib.hid hpre
          clear hpre
          have HSGato := Lib.hid (HSGat.out.later hbn)
          have HGato := Lib.hid (HGat.out.later hbn)
          clear hbn
          refine hK.out _ _ HSGato.out.d (fun hHeld => ?_)
          clear hK K
          try simp only [Act.put, List.setIfInBounds_toArray, List.set_cons_zero, List.set_cons_succ, List.getElem_toArray, List.getElem_cons_zero, List.getElem_cons_succ]
          refine wpAnyH_ready (rs := [19]) (by kernel_rfl) (by simp) ?_
          refine AllReadyH.cons rfl (fun K hK => ?_) AllReadyH.nil
          rw [if_pos (by rfl)]
          refine wp_store_part _ _ _ rfl gt 0 _ ((pre ++ [Value.slice none 0 0])) rfl rfl rfl _ ([]) (zTh) ([]) (by simpa using HGato.out) rfl (by rw [(HPR.out.nil w).len]; rfl) ((HPR.out.nil w).info) (HPR.out.nil w).one ?_
          intro wy hp
          refine hK.out _ _ (HSGato.out.put hp HGato.out HLT.out).d (fun hHeld => ?_)
          clear hK K
          try simp only [Act.put, List.setIfInBounds_toArray, List.set_cons_zero, List.set_cons_succ, List.getElem_toArray, List.getElem_cons_zero, List.getElem_cons_succ]
          refine wpAnyH_done (by kernel_rfl) ?_ _
          have KT : Hid (Bk wy gt 35 (pre ++ [Value.slice none 0 0])) := by show Bk _ _ _ _; have := hp.bk; simpa using this
          have KS := Lib.hid (HSGato.out.put hp HGato.out HLT.out)
          clear hp hHeld
          go_wp2_with fail
          go_meet
          exact ⟨gt, pre, rfl, KS, KT, HPR, HLT⟩
        exact AllReadyH.nil
      exact AllReadyH.nil
    exact AllReadyH.nil
  obtain ⟨gt, pre, rfl, HSG3, HT3, HPR, HLT⟩ := hcut
  obtain ⟨w3, hw3⟩ : ∃ w3, w3 = wc := ⟨_, rfl⟩
  subst hw3
  refine ‹∀ (a : Act) (w : World), Code.wp _ _ _ a w → _› _ _ ?_
  go_upto_region 2 with fail
  go_cut [5] (fun p wx => p = .pointer (some ⟨gt, 0, none⟩) ∧ ∃ (Q : Option Addr) (c : Nat), Hid (SG w1 w wx z lo g ca (bookS es (deE D))) ∧ Hid (Bk wx gt 35 (pre ++ [Value.slice Q 2 c])) ∧ Hid (wx.ownsRow w.heap.size 5 1 (.slice Q 2 c) 2 ((sigB (es.idxOf (deE D))).map (.int .u8))))
  case first =>
    refine wp_region_L [(15, fun w' => Bk w' gt 35 (pre ++ [Value.slice none 0 0]) ∧ Bk w' z 70 ca)] (by kernel_rfl) ⟨fun _ => ⟨Bk.drew HT3.out, Bk.drew HSG3.out.d⟩, trivial⟩ (fun hHeld => ?_)
    have hbd : Below w3.heap.size w3 w3.drew := below_draws w3 w3.heap.size 1
    obtain ⟨wa, hwa⟩ : ∃ wa, w3.drew = wa := ⟨_, rfl⟩
    rw [hwa] at hbd hHeld ⊢
    have HSGa := Lib.hid (HSG3.out.later hbd); have HTa := Lib.hid (HT3.out.later hbd)
    clear hwa hbd
    refine wpAnyL_take0 (i := 0) (v := ?_) rfl (by kernel_rfl) (by kernel_rfl) (by kernel_rfl) (by rfl) (fun _ _ _ h => h) (Or.inl ⟨by rfl, ?_⟩) hHeld ?_
    rotate_left
    · intro w _
      go_simp
      try with_reducible rfl
    clear hHeld
    intro hHeld
    try simp only [Act.put, List.setIfInBounds_toArray, List.set_cons_zero, List.set_cons_succ, List.getElem_toArray, List.getElem_cons_zero, List.getElem_cons_succ]
    refine wpAnyL_take0 (i := 1) (v := ?_) rfl (by kernel_rfl) (by kernel_rfl) (by kernel_rfl) (by rfl) (fun _ _ _ h => h) (Or.inl ⟨by rfl, ?_⟩) hHeld ?_
    rotate_left
    · intro w _
      go_simp
      try with_reducible rfl
    clear hHeld
    intro hHeld
    try simp only [Act.put, List.setIfInBounds_toArray, List.set_cons_zero, List.set_cons_succ, List.getElem_toArray, List.getElem_cons_zero, List.getElem_cons_succ]
    refine wpAnyL_take (i := 5) 0 rfl rfl (by kernel_rfl) (by kernel_rfl) (by kernel_rfl) (by kernel_rfl) (by kernel_rfl) (by rfl) (fun _ _ _ h => h) (v := .agg (List.toArray (pre ++ [Value.slice none 0 0]))) (yieldsIf_load_mid (by rfl) _ _ rfl _ _ rfl (pre ++ [Value.slice none 0 0]) _ (fun w hSw => (Bk.range (pre := []) (post := []) (by simpa using hSw.1) rfl)) Try.underlying35 rfl ((HPR.out.nil w).info)) hHeld ?_
    clear hHeld
    intro hHeld
    try simp only [Act.put, List.setIfInBounds_toArray, List.set_cons_zero, List.set_cons_succ, List.getElem_toArray, List.getElem_cons_zero, List.getElem_cons_succ]
    refine wpAnyL_take (i := 2) 0 rfl rfl (by kernel_rfl) (by kernel_rfl) (by kernel_rfl) (by kernel_rfl) (by kernel_rfl) (by rfl) (fun _ _ _ h => h) (v := ?_) (Or.inl ⟨by rfl, ?_⟩) hHeld ?_
    rotate_left
    · intro w hSw
      have hcell := (HDM.out w z hSw.2).c0
      clear hSw
      go_simp
      try with_reducible rfl
    clear hHeld
    intro hHeld
    try simp only [Act.put, List.setIfInBounds_toArray, List.set_cons_zero, List.set_cons_succ, List.getElem_toArray, List.getElem_cons_zero, List.getElem_cons_succ]
    refine wpAnyL_ready (rs := [3]) (by kernel_rfl) (by simp) ?_
    refine AllReadyL.cons rfl (fun K hK => ?_) AllReadyL.nil
    go_simp
    (go_at_call 27; refine (key_any wa D.seat).mono ?_; rintro e wb ⟨rfl, hbn⟩; have HSGb := Lib.hid (HSGa.out.later hbn); have HTb := Lib.hid (HTa.out.later hbn); clear hbn)
    refine hK.out _ _ (⟨fun _ => ⟨HTb.out, HSGb.out.d⟩, trivial⟩) (fun hHeld => ?_)
    clear hK K
    try simp only [Act.put, List.setIfInBounds_toArray, List.set_cons_zero, List.set_cons_succ, List.getElem_toArray, List.getElem_cons_zero, List.getElem_cons_succ]
    refine wpAnyL_ready (rs := [4]) (by kernel_rfl) (by simp) ?_
    refine AllReadyL.cons rfl (fun K hK => ?_) AllReadyL.nil
    go_simp
    (go_at_call 26; refine (signer_any wb g (keyD D.seat) (keyD_ok _)).mono ?_; rintro e wd ⟨rfl, hbn⟩; have HSGd := Lib.hid (HSGb.out.later hbn); have HTd := Lib.hid (HTb.out.later hbn); clear hbn)
    refine hK.out _ _ (⟨fun _ => ⟨HTd.out, HSGd.out.d⟩, trivial⟩) (fun hHeld => ?_)
    clear hK K
    try simp only [Act.put, List.setIfInBounds_toArray, List.set_cons_zero, List.set_cons_succ, List.getElem_toArray, List.getElem_cons_zero, List.getElem_cons_succ]
    refine wpAnyL_take0 (i := 7) (v := ?_) rfl (by kernel_rfl) (by kernel_rfl) (by kernel_rfl) (by rfl) (fun _ _ _ h => h) (Or.inl ⟨by rfl, ?_⟩) hHeld ?_
    rotate_left
    · intro w _
      go_simp
      try with_reducible rfl
    clear hHeld
    intro hHeld
    try simp only [Act.put, List.setIfInBounds_toArray, List.set_cons_zero, List.set_cons_succ, List.getElem_toArray, List.getElem_cons_zero, List.getElem_cons_succ]
    refine wpAnyL_take0 (i := 8) (v := ?_) rfl (by kernel_rfl) (by kernel_rfl) (by kernel_rfl) (by rfl) (fun _ _ _ h => h) (Or.inl ⟨by rfl, ?_⟩) hHeld ?_
    rotate_left
    · intro w _
      have hcell := nil_wr (wrC g (keyD D.seat)).toArray
      go_simp
      try with_reducible rfl
    clear hHeld
    intro hHeld
    try simp only [Act.put, List.setIfInBounds_toArray, List.set_cons_zero, List.set_cons_succ, List.getElem_toArray, List.getElem_cons_zero, List.getElem_cons_succ]
    refine wpAnyL_take0 (i := 9) (v := ?_) rfl (by kernel_rfl) (by kernel_rfl) (by kernel_rfl) (by rfl) (fun _ _ _ h => h) (Or.inl ⟨by rfl, ?_⟩) hHeld ?_
    rotate_left
    · intro w _
      go_simp
      try with_reducible rfl
    clear hHeld
    intro hHeld
    try simp only [Act.put, List.setIfInBounds_toArray, List.set_cons_zero, List.set_cons_succ, List.getElem_toArray, List.getElem_cons_zero, List.getElem_cons_succ]
    refine wpAnyL_ready (rs := [6]) (by kernel_rfl) (by simp) ?_
    refine AllReadyL.cons rfl (fun K hK => ?_) AllReadyL.nil
    go_simp
    (go_at_call 28; refine (thDigest ((HPR.out.nil wd).thg HSGd.out.h1)).mono ?_; rintro e we ⟨he, hbn⟩; rw [← toT_sig' (deR D) [], dgT_sig] at he; subst he; have HSGe := Lib.hid (HSGd.out.later hbn); have HTe := Lib.hid (HTd.out.later hbn); clear hbn)
    refine hK.out _ _ (⟨fun _ => ⟨HTe.out, HSGe.out.d⟩, trivial⟩) (fun hHeld => ?_)
    clear hK K
    try simp only [Act.put, List.setIfInBounds_toArray, List.set_cons_zero, List.set_cons_succ, List.getElem_toArray, List.getElem_cons_zero, List.getElem_cons_succ]
    have hmt := meth_wr (wrC g (keyD D.seat)).toArray
    refine wpAnyL_ready (rs := [10]) (by kernel_rfl) (by simp) ?_
    refine AllReadyL.cons rfl (fun K hK => ?_) AllReadyL.nil
    go_simp
    (refine (wsign_any we lo g es HSGe.out.bk (keyD D.seat) (dgT (toT (deR D))) (keyD_ok _) (dgT_ok _) HEL.out HSGe.out.lh).mono ?_; rintro e wf ⟨⟨A7, c7, rfl, hown⟩, hbk7, hb7, hk7⟩; have HSGf := Lib.hid (HSGe.out.sign hk7 hb7 hbk7); have HTf := Lib.hid (HTe.out.keeps hk7 (by decide) (by decide)); have HOW := Lib.hid (own_base hown HSGe.out.hk.size); clear hown hbk7 hb7 hk7 hmt)
    refine hK.out _ _ (⟨fun _ => ⟨HTf.out, HSGf.out.d⟩, trivial⟩) (fun hHeld => ?_)
    clear hK K
    try simp only [Act.put, List.setIfInBounds_toArray, List.set_cons_zero, List.set_cons_succ, List.getElem_toArray, List.getElem_cons_zero, List.getElem_cons_succ]
    refine wpAnyL_take0 (i := 11) (v := ?_) rfl (by kernel_rfl) (by kernel_rfl) (by kernel_rfl) (by rfl) (fun _ _ _ h => h) (Or.inl ⟨by rfl, ?_⟩) hHeld ?_
    rotate_left
    · intro w _
      go_simp
      try with_reducible rfl
    clear hHeld
    intro hHeld
    try simp only [Act.put, List.setIfInBounds_toArray, List.set_cons_zero, List.set_cons_succ, List.getElem_toArray, List.getElem_cons_zero, List.getElem_cons_succ]
    refine wpAnyL_take0 (i := 12) (v := ?_) rfl (by kernel_rfl) (by kernel_rfl) (by kernel_rfl) (by rfl) (fun _ _ _ h => h) (Or.inl ⟨by rfl, ?_⟩) hHeld ?_
    rotate_left
    · intro w _
      go_simp
      try with_reducible rfl
    clear hHeld
    intro hHeld
    try simp only [Act.put, List.setIfInBounds_toArray, List.set_cons_zero, List.set_cons_succ, List.getElem_toArray, List.getElem_cons_zero, List.getElem_cons_succ]
    refine wpAnyL_take0 (i := 13) (v := ?_) rfl (by kernel_rfl) (by kernel_rfl) (by kernel_rfl) (by rfl) (fun _ _ _ h => h) (Or.inl ⟨by rfl, ?_⟩) hHeld ?_
    rotate_left
    · intro w _
      go_simp
      try with_reducible rfl
    clear hHeld
    intro hHeld
    try simp only [Act.put, List.setIfInBounds_toArray, List.set_cons_zero, List.set_cons_succ, List.getElem_toArray, List.getElem_cons_zero, List.getElem_cons_succ]
    refine wpAnyL_take0 (i := 14) (v := ?_) rfl (by kernel_rfl) (by kernel_rfl) (by kernel_rfl) (by rfl) (fun _ _ _ h => h) (Or.inl ⟨by rfl, ?_⟩) hHeld ?_
    rotate_left
    · intro w _
      go_simp
      try with_reducible rfl
    clear hHeld
    intro hHeld
    try simp only [Act.put, List.setIfInBounds_toArray, List.set_cons_zero, List.set_cons_succ, List.getElem_toArray, List.getElem_cons_zero, List.getElem_cons_succ]
    refine wpAnyL_ready (rs := [15]) (by kernel_rfl) (by simp) ?_
    refine AllReadyL.cons rfl (fun K hK => ?_) AllReadyL.nil
    rw [if_pos (by rfl)]
    refine wp_store_part _ _ _ rfl gt 29 _ ([Value.slice A7 2 c7]) rfl rfl rfl _ (pre) ([Value.slice none 0 0]) ([]) (by have := HTf.out; simpa using this) HPR.out.len rfl (by kernel_rfl) (by intro x hx; simp at hx; subst hx; rfl) ?_
    intro wh hp
    refine hK.out _ _ ⟨fun h => dead h (by kernel_rfl), trivial⟩ (fun hHeld => ?_)
    clear hK K
    try simp only [Act.put, List.setIfInBounds_toArray, List.set_cons_zero, List.set_cons_succ, List.getElem_toArray, List.getElem_cons_zero, List.getElem_cons_succ]
    refine wpAnyL_done (by kernel_rfl) ?_ _
    have KT : Hid (Bk wh gt 35 (pre ++ [Value.slice A7 2 c7])) := by show Bk _ _ _ _; simpa using hp.bk
    have KS : Hid (SG w1 w wh z lo g ca (bookS es (deE D))) := HSGf.out.put hp HTf.out HLT.out
    have KO : Hid (wh.ownsRow w.heap.size 5 1 (.slice A7 2 c7) 2 ((sigB (es.idxOf (deE D))).map (.int .u8))) := own_only HOW.out hp.only (own_bk_ne HOW.out HTf.out (by decide))
    clear hp hHeld
    go_wp2_with fail
    go_meet
    exact ⟨rfl, A7, c7, KS, KT, KO⟩
  obtain ⟨rfl, Q, c, HSG4, HT4, HO4⟩ := hcut
  obtain ⟨w4, hw4⟩ : ∃ w4, w4 = wc := ⟨_, rfl⟩
  subst hw4
  clear HSG3 HT3
  refine ‹∀ (a : Act) (w : World), Code.wp _ _ _ a w → _› _ _ ?_
  have hc := (HDM.out w4 z HSG4.out.d).c6
  go_upto_if 40 with fail
  obtain ⟨sp, hsp⟩ : ∃ s, D.sp = s := ⟨_, rfl⟩
  rw [hsp] at hc
  rw [hsp]
  have HSP := Lib.hid hsp
  clear hsp hc
  go_cut [5] (fun p wx => p = .pointer (some ⟨gt, 0, none⟩) ∧ ∃ (cs : List Value), Hid (SG w1 w wx z lo g ca (bookS es (deE D))) ∧ Hid (Bk wx gt 35 cs) ∧ Hid (ThK w1 wx cs (deT D es)))
  case first =>
    cases sp
    · go_wp2_with fail
      go_meet
      refine ⟨rfl, _, HSG4, HT4, ?_⟩
      show ThK _ _ _ _
      rw [deT, deS, HSP.out]
      exact HPR.out.all w4 Q 2 c _ (.inr (own_base (by simpa using HO4.out) (Nat.zero_le _))) (by simpa using sigB_ok (Nat.lt_of_le_of_lt List.idxOf_le_length HEL.out))
    · have hc29 : w4.cell? ⟨gt, 29, none⟩ = some (.slice Q 2 c) := by rw [HT4.out.cell, List.getElem?_append_right (by rw [HPR.out.len]; exact Nat.le_refl _), HPR.out.len]; rfl
      go_wp2_with (at_builtin; refine stop_here ?_)
      refine StopD.go ?_
      clear hc29
      obtain ⟨q4, hq4⟩ : ∃ q, w4.heap.size = q := ⟨_, rfl⟩
      obtain ⟨w5, hw5⟩ : ∃ w5, w4.alloc (.cells #[.int .u8 1] 5) = w5 := ⟨_, rfl⟩
      have hbn : Below w4.heap.size w4 w5 := hw5 ▸ below_new w4 _
      have kb : Bk w5 q4 5 [.int .u8 1] := by rw [← hw5]; exact Bk.at_ w4 _ _ hq4 rfl
      rw [hq4, hw5]
      have HSG5 := Lib.hid (HSG4.out.later hbn); have HT5 := Lib.hid (HT4.out.later hbn); have HO5 := Lib.hid (own_keep HO4.out hbn); have HKB := Lib.hid kb
      clear hq4 hw5 hbn kb
      obtain ⟨i0, hi, hi0, hi1, hi2⟩ := info_parts Try.infoU8
      refine wpList_app _ rfl (.tmp 42) (.tmp 43) 23 rfl w.heap.size 5 i0 (.int .u8 0) 1 1 Try.underlying23 hi hi0 hi1 hi2 rfl (by decide) _ _ _ rfl HO5.out _ _ _ _ _ rfl (Sl.of_own (HKB.out.own (base := 0) (size := 1) (cap := 1) (Nat.zero_le _) (Nat.le_refl _) (by omega) rfl rfl)) (by intro u hu; simp at hu; subst hu; rfl) (by unfold maxLen; omega) (by omega) (HSG5.out.hk.size) ?_
      intro v w6 hown hg hat
      obtain ⟨A8, c8, hv8⟩ := own_form hown
      subst hv8
      have HSG6 := Lib.hid (HSG5.out.own HO5.out hg)
      have HT6 := Lib.hid (HT5.out.grown hg (Ne.symm (own_bk_ne HO5.out HT5.out (by decide))))
      have HO6 := Lib.hid hown
      clear hown hg hat hi hi0 hi1 hi2
      go_wp2_with (with_reducible refine stop_store 23 _ _ rfl ?_)
      refine StopD.go ?_
      refine wpList_store_part rfl 23 _ _ rfl gt 29 (.slice A8 (2 + 1) c8) [.slice A8 (2 + 1) c8] rfl rfl rfl 35 pre [.slice Q 2 c] [] (by simpa using HT6.out) HPR.out.len rfl (by kernel_rfl) (by intro x hx; simp at hx; subst hx; rfl) ?_
      intro w7 hp
      have KS := Lib.hid (HSG6.out.put hp HT6.out HLT.out)
      have KT : Hid (Bk w7 gt 35 (pre ++ [Value.slice A8 (2 + 1) c8])) := by show Bk _ _ _ _; simpa using hp.bk
      have KO := Lib.hid (own_only HO6.out hp.only (own_bk_ne HO6.out HT6.out (by decide)))
      clear hp
      go_wp2_with fail
      go_meet
      refine ⟨rfl, _, KS, KT, ?_⟩
      show ThK _ _ _ _
      rw [deT, deS, HSP.out]
      refine HPR.out.all w7 A8 (2 + 1) c8 _ (.inr (own_base (base := w.heap.size) ?_ (Nat.zero_le _))) ?_
      · have := KO.out
        simpa using this
      · intro b hb
        rcases List.mem_append.1 hb with hb | hb
        · exact sigB_ok (Nat.lt_of_le_of_lt List.idxOf_le_length HEL.out) b hb
        · simp at hb; omega
  obtain ⟨rfl, cs, HSG5, HT5, HX5⟩ := hcut
  obtain ⟨w5, hw5⟩ : ∃ w5, w5 = wc := ⟨_, rfl⟩
  subst hw5
  clear HSG4 HT4 HO4
  refine ‹∀ (a : Act) (w : World), Code.wp _ _ _ a w → _› _ _ ?_
  go_wp2_with (first
    | (with_reducible refine wpList_load_bk rfl 35 _ rfl gt rfl cs 35 HT5.out _ Try.underlying35 rfl HX5.out.info ?_)
    | (with_reducible refine stop_store 35 _ _ rfl ?_))
  refine StopD.go ?_
  refine wpList_store_part rfl 35 _ _ rfl (z + 1) 0 (.agg cs.toArray) cs rfl rfl rfl 35 [] zTh [] (by simpa using HSG5.out.o) rfl (by rw [HX5.out.len]; rfl) HX5.out.info HX5.out.one ?_
  intro w6 hp
  have KX := Lib.hid (HX5.out.grown hp.only HSG5.out.o (by decide))
  have KB := Lib.hid (HSG5.out.bk.put hp HSG5.out.o (by decide) (by decide))
  have KL : Hid (Below lo w w6) := below_only HSG5.out.hb hp.only HSG5.out.lh (Nat.le_succ_of_le (Nat.le_trans HSG5.out.lw HSG5.out.wz))
  have KK := Lib.hid (HSG5.out.hk.touch hp.only (Nat.le_succ_of_le HSG5.out.wz))
  have KR : Hid (Bk w6 (z + 1) 35 cs) := by show Bk _ _ _ _; have := hp.bk; simpa using this
  clear hp
  go_wp2_with fail
  refine bodyPost_ret (sign_ret KR.out HX5.out.info _ rfl) rfl ?_
  exact ⟨⟨cs, rfl, KX.out⟩, KB.out, KL.out, KK.out⟩
end Go.Proofs.Ythibihjblodfmaa
