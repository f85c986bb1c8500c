/- How a proof is read: what stands, and the two closures. How a proof is read: the walk. How the document reads a proof: what stands. How the document reads a proof: the walk. Proofs and their bytes: the plain law. -/
import Derived.Test.YtbclfjdamklbpaaK1
import Derived.Test.YtbclfjdamklbpaaLU
import Derived.Test.YtbclfjdamklbpaaLV
import Derived.Test.YtbclfjdamklbpaaLY
import Derived.Test.YtbclfjdamklbpaaM1
/-! How a proof is read: what stands, and the two closures. -/
namespace Go.Proofs.Ytbclfjdamklbpaa
set_option linter.unusedSimpArgs false
set_option linter.unusedVariables false
open Go.RowKit Go.Maps

/-- So many rounds of a read, as long as nothing is wrong. -/
def itN {α : Type} (f : Rd × Int → (Rd × Int) × α) (s : Rd × Int) : Nat → (Rd × Int) × List α
  | 0 => (s, [])
  | i + 1 => if (itN f s i).1.2 = 0 then ((f (itN f s i).1).1, (itN f s i).2 ++ [(f (itN f s i).1).2]) else itN f s i
theorem itN_stop {α : Type} {f : Rd × Int → (Rd × Int) × α} {s : Rd × Int} {k : Nat} (h : (itN f s k).1.2 ≠ 0) : ∀ j, itN f s (k + j) = itN f s k
  | 0 => rfl
  | j + 1 => by
    have ih := itN_stop h j
    rw [← Nat.add_assoc, itN, ih, if_neg h]
theorem itN_len {α : Type} {f : Rd × Int → (Rd × Int) × α} {s : Rd × Int} : ∀ n, (itN f s n).2.length ≤ n
  | 0 => by simp [itN]
  | n + 1 => by
    have := itN_len (f := f) (s := s) n
    rw [itN]
    split
    · simp; omega
    · omega
def payF (s : Rd × Int) : (Rd × Int) × Int := srcNum s 1125899906842624
def sigF (s : Rd × Int) : (Rd × Int) × List Int := srcSome s 4096
/-- What stands while a proof is read. -/
structure PdS (w0 w : World) (z gs g gl : Nat) (s : Rd × Int) (k : List Int) (v1 v2 : Value) (zs : List Int) (ps : List Pc) : Prop where
  sr : SrcAt w gs g s
  lk : Bk w gl 39 (pfC k v1 v2)
  rs : Bk w z 39 zPf
  r1 : w.ownsRow gl 3 1 v1 zs.length (zs.map (.int .i64))
  r2 : w.ownsRow gl 56 1 v2 ps.length (ps.map Pc.v)
  po : PcsOwn w gl ps
  kd : DgOk k
  hb : Below w0.heap.size w0 w
  z0 : w0.heap.size ≤ z
  zg : z < g
  gg : gs < gl
section
variable {w0 w wn wp : World} {z gs g gl : Nat} {s s' : Rd × Int} {k : List Int} {v1 v2 v' : Value} {zs : List Int} {ps : List Pc} {x : Int} {p : Pc}
theorem PdS.later (h : PdS w0 w z gs g gl s k v1 v2 zs ps) (hb : Below w.heap.size w wn) : PdS w0 wn z gs g gl s k v1 v2 zs ps :=
  ⟨h.sr.later hb, h.lk.later hb, h.rs.later hb, own_keep h.r1 hb, own_keep h.r2 hb, h.po.later hb, h.kd, below_then h.hb hb, h.z0, h.zg, h.gg⟩
theorem PdS.turn (h : PdS w0 w z gs g gl s k v1 v2 zs ps) (ht : Tn w wn g gs) (hs : SrcAt wn gs g s') : PdS w0 wn z gs g gl s' k v1 v2 zs ps := by
  have h1 := h.sr.lt; have h2 := h.zg; have h3 := h.gg; have h4 := h.z0
  have h5 := h.sr.ne_g h.r1 (by decide) (by decide)
  have h6 := h.sr.ne_g h.r2 (by decide) (by decide)
  exact ⟨hs, ht.bk h.lk (by omega) (by omega), ht.bk h.rs (by omega) (by omega), ht.own h.r1 h5.1 h5.2, ht.own h.r2 h6.1 h6.2, fun p hp => by
    have h7 := h.sr.ne_g (h.po p hp) (by decide) (by decide)
    exact ht.own (h.po p hp) h7.1 h7.2, h.kd, ht.below h.hb h.hb.size (by omega) (by omega), h.z0, h.zg, h.gg⟩
theorem PdS.app1 (h : PdS w0 w z gs g gl s k v1 v2 zs ps) (ho : wn.ownsRow gl 3 1 v' (zs.length + 1) (zs.map (.int .i64) ++ [.int .i64 x])) (hg : w.grownBy wn v1.ownBlock) (hp : Put wn wp gl 39 (pfC k v' v2)) : PdS w0 wp z gs g gl s k v' v2 (zs ++ [x]) ps := by
  have e1 := h.sr.lt; have e2 := h.zg; have e3 := h.gg; have e4 := h.z0
  have lkn := h.lk.grown hg (Ne.symm (own_bk_ne h.r1 h.lk (by decide)))
  have rsn := h.rs.grown hg (Ne.symm (own_bk_ne h.r1 h.rs (by decide)))
  have r2n := own_apart h.r2 h.r1 (by decide) hg
  have pon := h.po.apart h.r1 (by decide) hg
  have srn : SrcAt wn gs g s := h.sr.row h.r1 hg (by decide) (by decide) (.inl (by omega))
  have hbn := grown_below h.hb h.r1 hg (by omega) h.hb.size
  have ho' : wn.ownsRow gl 3 1 v' (zs ++ [x]).length ((zs ++ [x]).map (.int .i64)) := by simpa using ho
  exact ⟨srn.only hp.only (by omega) (by omega) (by omega), hp.bk, rsn.grown hp.only (by intro e; injection e with e; omega), own_only ho' hp.only (own_bk_ne ho' lkn (by decide)), own_only r2n hp.only (own_bk_ne r2n lkn (by decide)), fun q hq => own_only (pon q hq) hp.only (own_bk_ne (pon q hq) lkn (by decide)), h.kd, below_only hbn hp.only hbn.size (by omega), h.z0, h.zg, h.gg⟩
theorem PdS.app2 (h : PdS w0 w z gs g gl s k v1 v2 zs ps) (hq : w.ownsRow gl 5 1 p.v p.n (p.bs.map (.int .u8))) (ho : wn.ownsRow gl 56 1 v' (ps.length + 1) (ps.map Pc.v ++ [p.v])) (hg : w.grownBy wn v2.ownBlock) (hp : Put wn wp gl 39 (pfC k v1 v')) : PdS w0 wp z gs g gl s k v1 v' zs (ps ++ [p]) := by
  have e1 := h.sr.lt; have e2 := h.zg; have e3 := h.gg; have e4 := h.z0
  have lkn := h.lk.grown hg (Ne.symm (own_bk_ne h.r2 h.lk (by decide)))
  have rsn := h.rs.grown hg (Ne.symm (own_bk_ne h.r2 h.rs (by decide)))
  have r1n := own_apart h.r1 h.r2 (by decide) hg
  have pon : PcsOwn wn gl (ps ++ [p]) := fun q hq' => by
    rcases List.mem_append.1 hq' with hq' | hq'
    · exact h.po.apart h.r2 (by decide) hg q hq'
    · rw [List.mem_singleton] at hq'; subst hq'; exact own_apart hq h.r2 (by decide) hg
  have srn : SrcAt wn gs g s := h.sr.row h.r2 hg (by decide) (by decide) (.inl (by omega))
  have hbn := grown_below h.hb h.r2 hg (by omega) h.hb.size
  have ho' : wn.ownsRow gl 56 1 v' (ps ++ [p]).length ((ps ++ [p]).map Pc.v) := by simpa using ho
  exact ⟨srn.only hp.only (by omega) (by omega) (by omega), hp.bk, rsn.grown hp.only (by intro e; injection e with e; omega), own_only r1n hp.only (own_bk_ne r1n lkn (by decide)), own_only ho' hp.only (own_bk_ne ho' lkn (by decide)), fun q hq => own_only (pon q hq) hp.only (own_bk_ne (pon q hq) lkn (by decide)), h.kd, below_only hbn hp.only hbn.size (by omega), h.z0, h.zg, h.gg⟩
end
theorem bs_pp1 (A : Option Addr) (n c : Nat) (w : World) : (Instr.buildSlice 37 1 #[(0, .slice A n c)]).run Try.prog w = .ok (.slice (some ⟨w.heap.size, 0, none⟩) 1 1) (w.alloc (.cells ([Value.slice A n c]).toArray 56)) := by kernel_rfl
def RetP1 (w0 : World) (z gs g gl : Nat) (s : Rd × Int) (k : List Int) (v2 : Value) (zs : List Int) (ps : List Pc) (e : Ending) (w' : World) : Prop :=
  e = .returned (.tuple #[]) ∧ ∃ (P : Option Addr) (c : Nat), PdS w0 w' z gs g gl s k (.slice P zs.length c) v2 zs ps
def RetP2 (w0 : World) (z gs g gl : Nat) (s : Rd × Int) (k : List Int) (v1 : Value) (zs : List Int) (ps : List Pc) (x : List Int) (e : Ending) (w' : World) : Prop :=
  e = .returned (.tuple #[]) ∧ ∃ (P : Option Addr) (c : Nat) (p : Pc), p.bs = x ∧ p.n = x.length ∧ PdS w0 w' z gs g gl s k v1 (.slice P (ps ++ [p]).length c) zs (ps ++ [p])
set_option maxRecDepth 20000 in
set_option maxHeartbeats 2000000 in
theorem ppay_any (w0 w : World) (z gs g gl : Nat) (s : Rd × Int) (k : List Int) (P : Option Addr) (c : Nat) (v2 : Value) (zs : List Int) (ps : List Pc) (h : PdS w0 w z gs g gl s k (.slice P zs.length c) v2 zs ps) (hl : zs.length ≤ 1000) :
    Calls Try.prog 56 #[.pointer (some ⟨gl, 0, none⟩), .pointer (some ⟨gs, 0, none⟩)] w (RetP1 w0 z gs g gl (payF s).1 k v2 (zs ++ [(payF s).2]) ps) := by
  have HD := Lib.hid h
  have HHO : Hid (DgOk k) := h.kd
  obtain ⟨R, hR⟩ : ∃ R, payF s = R := ⟨_, rfl⟩
  have HDG := Lib.hid (fun w' (hs : SrcAt w' gs g s) => srcNum_any w' gs g s hs 1125899906842624 (by decide) (by decide))
  rw [show srcNum s 1125899906842624 = R from hR] at HDG
  rw [hR]
  obtain ⟨m, hm⟩ : ∃ m, zs.length = m := ⟨_, rfl⟩
  have HML := Lib.hid hm
  rw [hm] at HD hl
  clear h hR hm
  go_enter Try.func56, Try.ntmps56
  go_wp2_with fail
  have hbd : Below w.heap.size w w.drew := below_draws w w.heap.size 1
  refine wp_region_L [(6, fun w' => Bk w' gl 39 (pfC k (.slice P m c) v2))] (by kernel_rfl) ⟨fun _ => HD.out.lk.later hbd, trivial⟩ (fun hHeld => ?_)
  obtain ⟨wa, hwa⟩ : ∃ wa, w.drew = wa := ⟨_, rfl⟩
  rw [hwa] at hbd hHeld ⊢
  have HDa := Lib.hid (HD.out.later hbd)
  clear hwa hbd HD
  refine wpAnyL_take0 (i := 0) (v := ?_) rfl (by kernel_rfl) (by kernel_rfl) (by kernel_rfl) (by rfl) (fun _ _ _ h => h) (Or.inl ⟨by rfl, ?_⟩) hHeld ?_
  rotate_left
  · intro w _
    go_simp
    try with_reducible rfl
  clear hHeld
  intro hHeld
  try simp only [Act.put, List.setIfInBounds_toArray, List.set_cons_zero, List.set_cons_succ, List.getElem_toArray, List.getElem_cons_zero, List.getElem_cons_succ]
  refine wpAnyL_take (i := 1) 0 rfl rfl (by kernel_rfl) (by kernel_rfl) (by kernel_rfl) (by kernel_rfl) (by kernel_rfl) (by rfl) (fun _ _ _ h => h) (v := ?_) (Or.inl ⟨by rfl, ?_⟩) hHeld ?_
  rotate_left
  · intro w hSw
    have hcell := (pf_mem HHO.out hSw).c8
    clear hSw
    go_simp
    try with_reducible rfl
  clear hHeld
  intro hHeld
  try simp only [Act.put, List.setIfInBounds_toArray, List.set_cons_zero, List.set_cons_succ, List.getElem_toArray, List.getElem_cons_zero, List.getElem_cons_succ]
  refine wpAnyL_ready (rs := [2]) (by kernel_rfl) (by simp) ?_
  refine AllReadyL.cons rfl (fun K hK => ?_) AllReadyL.nil
  go_simp
  (go_at_call 55; refine (HDG.out wa HDa.out.sr).mono ?_; rintro e wb ⟨rfl, hs, ht⟩; have HDb := Lib.hid (HDa.out.turn ht hs); clear hs ht HDa HDG)
  refine hK.out _ _ (⟨fun _ => HDb.out.lk, trivial⟩) (fun hHeld => ?_)
  clear hK K
  try simp only [Act.put, List.setIfInBounds_toArray, List.set_cons_zero, List.set_cons_succ, List.getElem_toArray, List.getElem_cons_zero, List.getElem_cons_succ]
  refine wpAnyL_ready (rs := [3]) (by kernel_rfl) (by simp) ?_
  refine AllReadyL.cons rfl (fun K hK => ?_) AllReadyL.nil
  rw [if_pos (by rfl)]
  refine wp_bslice _ 1 _ rfl #[(0, .int .i64 R.2)] (by simp [Act.eval]) _ _ (bs_i1 R.2 _) ?_
  obtain ⟨wc, hwc⟩ : ∃ w7, wb.alloc (.cells ([.int .i64 R.2] : List Value).toArray 3) = w7 := ⟨_, rfl⟩
  obtain ⟨q7, hq7⟩ : ∃ q, wb.heap.size = q := ⟨_, rfl⟩
  have hbn : Below wb.heap.size wb wc := hwc ▸ below_new wb _
  have HQ7 : Hid (Bk wc q7 3 [.int .i64 R.2]) := by show Bk _ _ _ _; rw [← hwc]; exact Bk.at_ wb _ _ hq7 rfl
  rw [hwc, hq7]
  clear hwc hq7
  have HDc := Lib.hid (HDb.out.later hbn)
  clear hbn HDb
  refine hK.out _ _ ⟨fun _ => HDc.out.lk, trivial⟩ (fun hHeld => ?_)
  clear hK K
  try simp only [Act.put, List.setIfInBounds_toArray, List.set_cons_zero, List.set_cons_succ, List.getElem_toArray, List.getElem_cons_zero, List.getElem_cons_succ]
  refine wpAnyL_ready (rs := [4]) (by kernel_rfl) (by simp) ?_
  refine AllReadyL.cons rfl (fun K hK => ?_) AllReadyL.nil
  rw [if_pos (by rfl)]
  obtain ⟨i0, hi, hi0, hi1, hi2⟩ := info_parts Try.infoInt
  have hrow := HDc.out.r1
  rw [HML.out] at hrow
  refine wp_app _ (.tmp 3) (.tmp 5) 27 rfl gl 3 i0 (.int .i64 0) 1 8 Try.underlying27 hi hi0 hi1 hi2 rfl (by decide) _ _ _ rfl hrow _ _ _ _ _ rfl (Sl.of_own (HQ7.out.own (base := 0) (size := 1) (cap := 1) (n := 1) (Nat.zero_le _) (Nat.le_refl _) (by omega) rfl rfl)) (by intro u hu; simp at hu; subst hu; rfl) (by unfold maxLen; omega) (by omega) (Nat.le_of_lt HDc.out.lk.lt) ?_
  intro v9 wd hown hg hat
  obtain ⟨P9, c9, h9⟩ := own_form hown
  subst h9
  have HOd := Lib.hid hown; have HGd := Lib.hid hg
  have HLd := Lib.hid (HDc.out.lk.grown hg (Ne.symm (own_bk_ne hrow HDc.out.lk (by decide))))
  clear hown hg hat hi hi0 hi1 hi2 hrow HQ7
  refine hK.out _ _ ⟨fun _ => HLd.out, trivial⟩ (fun hHeld => ?_)
  clear hK K
  try simp only [Act.put, List.setIfInBounds_toArray, List.set_cons_zero, List.set_cons_succ, List.getElem_toArray, List.getElem_cons_zero, List.getElem_cons_succ]
  refine wpAnyL_take0 (i := 5) (v := ?_) rfl (by kernel_rfl) (by kernel_rfl) (by kernel_rfl) (by rfl) (fun _ _ _ h => h) (Or.inl ⟨by rfl, ?_⟩) hHeld ?_
  rotate_left
  · intro w _
    go_simp
    try with_reducible rfl
  clear hHeld
  intro hHeld
  try simp only [Act.put, List.setIfInBounds_toArray, List.set_cons_zero, List.set_cons_succ, List.getElem_toArray, List.getElem_cons_zero, List.getElem_cons_succ]
  refine wpAnyL_ready (rs := [6]) (by kernel_rfl) (by simp) ?_
  refine AllReadyL.cons rfl (fun K hK => ?_) AllReadyL.nil
  rw [if_pos (by rfl)]
  refine wp_store_part _ _ _ rfl gl 8 _ ([.slice P9 (m + 1) c9]) rfl rfl rfl _ (dl k) ([.slice P m c]) ([v2]) (by have := HLd.out; simpa [pfC] using this) (by simp [dl_len, HHO.out.len]) rfl (by kernel_rfl) (by simp [Value.oneCell']) ?_
  intro we hp
  refine hK.out _ _ ⟨fun h => dead h (by kernel_rfl), trivial⟩ (fun hHeld => ?_)
  clear hK K
  try simp only [Act.put, List.setIfInBounds_toArray, List.set_cons_zero, List.set_cons_succ, List.getElem_toArray, List.getElem_cons_zero, List.getElem_cons_succ]
  refine wpAnyL_done (by kernel_rfl) ?_ _
  clear hHeld
  have hp' : Put wd we gl 39 (pfC k (.slice P9 (m + 1) c9) v2) := by simpa [pfC] using hp
  have HFD := Lib.hid (HDc.out.app1 (x := R.2) (by rw [HML.out]; exact HOd.out) HGd.out hp')
  clear hp hp' HLd HOd HGd HDc
  go_wp2_with fail
  refine bodyPost_ret (results_none rfl _ _ _) rfl ?_
  refine ⟨rfl, P9, c9, ?_⟩
  rw [show (zs ++ [R.2]).length = m + 1 by rw [List.length_append, HML.out]; rfl]
  exact HFD.out
set_option maxRecDepth 20000 in
set_option maxHeartbeats 2000000 in
theorem psig_any (w0 w : World) (z gs g gl : Nat) (s : Rd × Int) (k : List Int) (P : Option Addr) (c : Nat) (v1 : Value) (zs : List Int) (ps : List Pc) (h : PdS w0 w z gs g gl s k v1 (.slice P ps.length c) zs ps) (hl : ps.length ≤ 1000) :
    Calls Try.prog 57 #[.pointer (some ⟨gl, 0, none⟩), .pointer (some ⟨gs, 0, none⟩)] w (RetP2 w0 z gs g gl (sigF s).1 k v1 zs ps (sigF s).2) := by
  have HD := Lib.hid h
  have HHO : Hid (DgOk k) := h.kd
  obtain ⟨R, hR⟩ : ∃ R, sigF s = R := ⟨_, rfl⟩
  have HDG := Lib.hid (fun w' (hs : SrcAt w' gs g s) => srcSome_any w' gs g s hs 4096 (by decide) (by decide))
  rw [show srcSome s 4096 = R from hR] at HDG
  rw [hR]
  obtain ⟨m, hm⟩ : ∃ m, ps.length = m := ⟨_, rfl⟩
  have HML := Lib.hid hm
  rw [hm] at HD hl
  clear h hR hm
  go_enter Try.func57, Try.ntmps57
  go_wp2_with fail
  have hbd : Below w.heap.size w w.drew := below_draws w w.heap.size 1
  refine wp_region_L [(6, fun w' => Bk w' gl 39 (pfC k v1 (.slice P m c)))] (by kernel_rfl) ⟨fun _ => HD.out.lk.later hbd, trivial⟩ (fun hHeld => ?_)
  obtain ⟨wa, hwa⟩ : ∃ wa, w.drew = wa := ⟨_, rfl⟩
  rw [hwa] at hbd hHeld ⊢
  have HDa := Lib.hid (HD.out.later hbd)
  clear hwa hbd HD
  refine wpAnyL_take0 (i := 0) (v := ?_) rfl (by kernel_rfl) (by kernel_rfl) (by kernel_rfl) (by rfl) (fun _ _ _ h => h) (Or.inl ⟨by rfl, ?_⟩) hHeld ?_
  rotate_left
  · intro w _
    go_simp
    try with_reducible rfl
  clear hHeld
  intro hHeld
  try simp only [Act.put, List.setIfInBounds_toArray, List.set_cons_zero, List.set_cons_succ, List.getElem_toArray, List.getElem_cons_zero, List.getElem_cons_succ]
  refine wpAnyL_take (i := 1) 0 rfl rfl (by kernel_rfl) (by kernel_rfl) (by kernel_rfl) (by kernel_rfl) (by kernel_rfl) (by rfl) (fun _ _ _ h => h) (v := ?_) (Or.inl ⟨by rfl, ?_⟩) hHeld ?_
  rotate_left
  · intro w hSw
    have hcell := (pf_mem HHO.out hSw).c9
    clear hSw
    go_simp
    try with_reducible rfl
  clear hHeld
  intro hHeld
  try simp only [Act.put, List.setIfInBounds_toArray, List.set_cons_zero, List.set_cons_succ, List.getElem_toArray, List.getElem_cons_zero, List.getElem_cons_succ]
  refine wpAnyL_ready (rs := [2]) (by kernel_rfl) (by simp) ?_
  refine AllReadyL.cons rfl (fun K hK => ?_) AllReadyL.nil
  go_simp
  (go_at_call 58; refine (HDG.out wa HDa.out.sr).mono ?_; rintro e wb ⟨vb, rfl, hown, hs, ht⟩; obtain ⟨P1, c1, h9⟩ := own_form hown; subst h9; have HOb := Lib.hid (own_base hown (Nat.le_of_lt HDa.out.lk.lt)); have HDb := Lib.hid (HDa.out.turn ht hs); clear hs ht hown HDa HDG)
  refine hK.out _ _ (⟨fun _ => HDb.out.lk, trivial⟩) (fun hHeld => ?_)
  clear hK K
  try simp only [Act.put, List.setIfInBounds_toArray, List.set_cons_zero, List.set_cons_succ, List.getElem_toArray, List.getElem_cons_zero, List.getElem_cons_succ]
  refine wpAnyL_ready (rs := [3]) (by kernel_rfl) (by simp) ?_
  refine AllReadyL.cons rfl (fun K hK => ?_) AllReadyL.nil
  rw [if_pos (by rfl)]
  refine wp_bslice _ 1 _ rfl #[(0, .slice P1 R.2.length c1)] (by simp [Act.eval]) _ _ (bs_pp1 P1 R.2.length c1 _) ?_
  obtain ⟨wc, hwc⟩ : ∃ w7, wb.alloc (.cells ([Value.slice P1 R.2.length c1]).toArray 56) = w7 := ⟨_, rfl⟩
  obtain ⟨q7, hq7⟩ : ∃ q, wb.heap.size = q := ⟨_, rfl⟩
  have hbn : Below wb.heap.size wb wc := hwc ▸ below_new wb _
  have HQ7 : Hid (Bk wc q7 56 [Value.slice P1 R.2.length c1]) := by show Bk _ _ _ _; rw [← hwc]; exact Bk.at_ wb _ _ hq7 rfl
  rw [hwc, hq7]
  clear hwc hq7
  have HDc := Lib.hid (HDb.out.later hbn); have HOc := Lib.hid (own_keep HOb.out hbn)
  clear hbn HDb HOb
  refine hK.out _ _ ⟨fun _ => HDc.out.lk, trivial⟩ (fun hHeld => ?_)
  clear hK K
  try simp only [Act.put, List.setIfInBounds_toArray, List.set_cons_zero, List.set_cons_succ, List.getElem_toArray, List.getElem_cons_zero, List.getElem_cons_succ]
  refine wpAnyL_ready (rs := [4]) (by kernel_rfl) (by simp) ?_
  refine AllReadyL.cons rfl (fun K hK => ?_) AllReadyL.nil
  rw [if_pos (by rfl)]
  obtain ⟨i0, hi, hi0, hi1, hi2⟩ := info_parts Try.infoSlB
  have hrow := HDc.out.r2
  rw [HML.out] at hrow
  refine wp_app _ (.tmp 3) (.tmp 5) 37 rfl gl 56 i0 (.slice none 0 0) 1 24 Try.underlying37 hi hi0 hi1 hi2 rfl (by decide) _ _ _ rfl hrow _ _ _ _ _ rfl (Sl.of_own (HQ7.out.own (base := 0) (size := 1) (cap := 1) (n := 1) (Nat.zero_le _) (Nat.le_refl _) (by omega) rfl rfl)) (by intro u hu; simp at hu; subst hu; rfl) (by unfold maxLen; omega) (by omega) (Nat.le_of_lt HDc.out.lk.lt) ?_
  intro v9 wd hown hg hat
  obtain ⟨P9, c9, h9⟩ := own_form hown
  subst h9
  have HOd := Lib.hid hown; have HGd := Lib.hid hg
  have HLd := Lib.hid (HDc.out.lk.grown hg (Ne.symm (own_bk_ne hrow HDc.out.lk (by decide))))
  clear hown hg hat hi hi0 hi1 hi2 hrow HQ7
  refine hK.out _ _ ⟨fun _ => HLd.out, trivial⟩ (fun hHeld => ?_)
  clear hK K
  try simp only [Act.put, List.setIfInBounds_toArray, List.set_cons_zero, List.set_cons_succ, List.getElem_toArray, List.getElem_cons_zero, List.getElem_cons_succ]
  refine wpAnyL_take0 (i := 5) (v := ?_) rfl (by kernel_rfl) (by kernel_rfl) (by kernel_rfl) (by rfl) (fun _ _ _ h => h) (Or.inl ⟨by rfl, ?_⟩) hHeld ?_
  rotate_left
  · intro w _
    go_simp
    try with_reducible rfl
  clear hHeld
  intro hHeld
  try simp only [Act.put, List.setIfInBounds_toArray, List.set_cons_zero, List.set_cons_succ, List.getElem_toArray, List.getElem_cons_zero, List.getElem_cons_succ]
  refine wpAnyL_ready (rs := [6]) (by kernel_rfl) (by simp) ?_
  refine AllReadyL.cons rfl (fun K hK => ?_) AllReadyL.nil
  rw [if_pos (by rfl)]
  refine wp_store_part _ _ _ rfl gl 9 _ ([.slice P9 (m + 1) c9]) rfl rfl rfl _ (dl k ++ [v1]) ([.slice P m c]) ([]) (by have := HLd.out; simpa [pfC] using this) (by simp [dl_len, HHO.out.len]) rfl (by kernel_rfl) (by simp [Value.oneCell']) ?_
  intro we hp
  refine hK.out _ _ ⟨fun h => dead h (by kernel_rfl), trivial⟩ (fun hHeld => ?_)
  clear hK K
  try simp only [Act.put, List.setIfInBounds_toArray, List.set_cons_zero, List.set_cons_succ, List.getElem_toArray, List.getElem_cons_zero, List.getElem_cons_succ]
  refine wpAnyL_done (by kernel_rfl) ?_ _
  clear hHeld
  have hp' : Put wd we gl 39 (pfC k v1 (.slice P9 (m + 1) c9)) := by simpa [pfC] using hp
  have HFD := Lib.hid (HDc.out.app2 (p := ⟨P1, R.2.length, c1, R.2⟩) HOc.out (by rw [HML.out]; exact HOd.out) HGd.out hp')
  clear hp hp' HLd HOd HGd HDc HOc
  go_wp2_with fail
  refine bodyPost_ret (results_none rfl _ _ _) rfl ?_
  refine ⟨rfl, P9, c9, ⟨P1, R.2.length, c1, R.2⟩, rfl, rfl, ?_⟩
  rw [List.length_append, HML.out]
  exact HFD.out
end Go.Proofs.Ytbclfjdamklbpaa

/-! How a proof is read: the walk. -/
namespace Go.Proofs.Ytbclfjdamklbpaa
set_option linter.unusedSimpArgs false
set_option linter.unusedVariables false
open Go.RowKit Go.Maps

/-- What is read: a proof, or what is wrong. -/
structure PfJ where
  k : List Int
  zs : List Int
  L : List (List Int)
  e : Int
def decP5 (k zs : List Int) (L : List (List Int)) (s : Rd × Int) : PfJ := if srcEnd s = 0 then ⟨k, zs, L, 0⟩ else ⟨zeroD, [], [], srcEnd s⟩
def decP4 (k zs : List Int) (s : Rd × Int) : PfJ := decP5 k zs (itN sigF (srcNum s 8).1 (srcNum s 8).2.toNat).2 (itN sigF (srcNum s 8).1 (srcNum s 8).2.toNat).1
def decP3 (k : List Int) (s : Rd × Int) : PfJ := decP4 k (itN payF (srcNum s 8).1 (srcNum s 8).2.toNat).2 (itN payF (srcNum s 8).1 (srcNum s 8).2.toNat).1
def decPf (bs : List Int) : PfJ := decP3 (srcDg (⟨bs, 0⟩, 0)).2 (srcDg (⟨bs, 0⟩, 0)).1
def RetDp (o : PfJ) (w : World) (e : Ending) (w' : World) : Prop :=
  ∃ (P : Option Addr) (c : Nat) (R : Option Addr) (d : Nat) (ps : List Pc), e = .returned (.tuple #[.agg (pfC o.k (.slice P o.zs.length c) (.slice R ps.length d)).toArray, .int .i64 o.e]) ∧ w'.ownsRow w.heap.size 3 1 (.slice P o.zs.length c) o.zs.length (o.zs.map (.int .i64)) ∧ w'.ownsRow w.heap.size 56 1 (.slice R ps.length d) ps.length (ps.map Pc.v) ∧ PcsOwn w' w.heap.size ps ∧ ps.map Pc.bs = o.L ∧ DgOk o.k ∧ Below w.heap.size w w'
theorem decp_ret {w : World} {g : Nat} {cs : List Value} {n : Int} (hl : cs.length = 10) (h : Bk w g 39 cs) (tmps : Array Value) (h2 : tmps.getD 2 undef = .pointer (some ⟨g, 0, none⟩)) (h3 : tmps.getD 3 undef = .int .i64 n) :
    (results Try.f24 tmps).run Try.prog w = .ok (.tuple #[.agg cs.toArray, .int .i64 n]) w := by
  have r1 : w.rangeAt g 0 cs := Bk.range (pre := []) (post := []) (by simpa using h) rfl
  have l1 := run_loadVar_mid (P := Try.prog) w g 0 39 cs _ r1 Try.underlying39 rfl (by rw [hl]; exact pf_size)
  rw [Array.getD_eq_getD_getElem?] at h2 h3
  simp [results, Try.results24, h2, h3, asAddr, l1]
theorem build_pfd (h : List Int) (hh : DgOk h) (w : World) : (Instr.build 39 #[(0, .agg (dl h).toArray)]).run Try.prog w = .ok (.agg (pfC h (.slice none 0 0) (.slice none 0 0)).toArray) w := by
  obtain ⟨x0, x1, x2, x3, x4, x5, x6, x7, rfl⟩ := list8 h hh.len
  kernel_rfl
theorem z_pf (w : World) : (Instr.build 39 #[]).run Try.prog w = .ok (.agg zPf.toArray) w := by kernel_rfl
theorem zpf_size : (Try.prog.info? 39).map (·.size) = some zPf.length := by kernel_rfl
set_option maxRecDepth 20000 in
set_option maxHeartbeats 8000000 in
theorem pdec_any (w : World) (A : Option Addr) (n c : Nat) (bs : List Int) (ho : ByOk bs) (hs : Sl w w.heap.size 1 A n (bs.map (.int .u8))) (hn : n ≤ 1073741824) :
    Calls Try.prog 24 #[.slice A n c] w (RetDp (decPf bs) w) := by
  obtain ⟨z, hz⟩ : ∃ z, w.heap.size = z := ⟨_, rfl⟩
  obtain ⟨w1, hw1⟩ : ∃ w1, w.alloc (.cells #[.int .u8 0, .int .u8 0, .int .u8 0, .int .u8 0, .int .u8 0, .int .u8 0, .int .u8 0, .int .u8 0, .slice none 0 0, .slice none 0 0] 39) = w1 := ⟨_, rfl⟩
  have hb1 : Below w.heap.size w w1 := hw1 ▸ below_new w _
  have kz : Bk w1 z 39 zPf := hw1 ▸ Bk.at_ w _ _ hz rfl
  have HW := Lib.hid hw1; have HB1 := Lib.hid hb1; have HZ1 := Lib.hid kz; have HZ := Lib.hid hz
  have HNR := Lib.hid (newReader_any w1 A n c bs ho (hs.later hb1) hn)
  have HBO := Lib.hid ho
  obtain ⟨D, hD⟩ : ∃ D, decPf bs = D := ⟨_, rfl⟩
  have HDL := Lib.hid hD
  rw [hD]
  clear hw1 hb1 kz hz hs ho hD
  go_enter Try.func24, Try.ntmps24
  go_upto_region 1 with fail
  rw [HW.out, HZ.out]
  go_wp2_with fail
  refine HNR.out.mono ?_
  rintro e w2 ⟨⟨g, rfl, hgz, hr⟩, hbn⟩
  have HZ2 := Lib.hid (HZ1.out.later hbn); have HB2 := Lib.hid (below_then HB1.out hbn); have HR2 := Lib.hid hr
  have HGZ : Hid (z < g) := by have := HZ1.out.lt; show z < g; omega
  clear hgz hr hbn HNR HZ1 HB1
  have hbsr := build_src g
  go_wp2_with (first
    | ((with_reducible refine wpList_build rfl 110 _ rfl #[(0, .pointer (some ⟨g, 0, none⟩))] ?_ _ (hbsr _) ?_); focus (simp [Act.eval, Act.put]; done))
    | (with_reducible refine stop_store 110 _ _ rfl ?_))
  clear hbsr
  refine StopD.go ?_
  obtain ⟨gs, hgs⟩ : ∃ q, w2.heap.size = q := ⟨_, rfl⟩
  obtain ⟨wq, hwq⟩ : ∃ w', w2.alloc (.cells #[.pointer none, .int .i64 0] 110) = w' := ⟨_, rfl⟩
  have hbn : Below w2.heap.size w2 wq := hwq ▸ below_new w2 _
  have kt : Bk wq gs 110 ([] ++ ([.pointer none, .int .i64 0] ++ [])) := by rw [← hwq]; exact Bk.at_ w2 _ _ hgs rfl
  rw [hgs, hwq]
  refine wpList_store_part rfl 110 _ _ rfl gs 0 (.agg #[.pointer (some ⟨g, 0, none⟩), .int .i64 0]) [.pointer (some ⟨g, 0, none⟩), .int .i64 0] rfl rfl rfl 110 [] _ [] kt rfl rfl (by kernel_rfl) (by intro x hx; simp at hx; rcases hx with rfl | rfl <;> rfl) ?_
  intro w3 hp
  have hbn : Below w2.heap.size w2 w3 := hbn.grown hp.only hbn.size (fun q' hq' => by injection hq' with hq'; omega)
  have HS3 : Hid (SrcAt w3 gs g (⟨bs, 0⟩, 0)) := ⟨HR2.out.later hbn, by have := hp.bk; simpa using this, by have := HR2.out; obtain ⟨_, _, _, _, _, hb, _⟩ := this; have := hb.lt; omega, fun _ => rfl⟩
  have HZ3 := Lib.hid (HZ2.out.later hbn); have HB3 := Lib.hid (below_then HB2.out hbn)
  clear hbn hp kt hgs hwq HR2 HZ2 HB2
  obtain ⟨s0, hs0⟩ : ∃ s : Rd × Int, (⟨bs, 0⟩, 0) = s := ⟨_, rfl⟩
  have HS0 := Lib.hid hs0
  rw [hs0] at HS3
  clear hs0
  go_wp2_with fail
  obtain ⟨⟨s1, k⟩, hR⟩ : ∃ R, srcDg s0 = R := ⟨_, rfl⟩
  have HR1 := Lib.hid hR
  have hnn := srcDg_any w3 gs g s0 HS3.out
  have hdo := srcDg_ok HS3.out.rd.ok
  rw [hR] at hnn hdo
  have HN := Lib.hid hnn; have HHO : Hid (DgOk k) := hdo
  clear hnn hR hdo
  refine HN.out.mono ?_
  rintro e w4 ⟨rfl, hs, ht⟩
  have HGG : Hid (z < g ∧ g < gs ∧ w.heap.size ≤ z) := ⟨HGZ.out, HS3.out.lt, Nat.le_of_eq HZ.out⟩
  have hgg := HGG.out
  have HS4 := Lib.hid hs; have HZ4 := Lib.hid (ht.bk HZ3.out (by omega) (by omega)); have HB4 := Lib.hid (ht.below HB3.out HB3.out.size (by omega) (by omega))
  clear hs ht HN HS3 HZ3 HB3 hgg
  have hbl := build_pfd k HHO.out
  go_wp2_with (first
    | ((with_reducible refine wpList_build rfl 39 _ rfl #[(0, .agg (dl k).toArray)] ?_ _ (hbl _) ?_); focus (simp [Act.eval, Act.put]; done))
    | (with_reducible refine stop_store 39 _ _ rfl ?_))
  clear hbl
  refine StopD.go ?_
  obtain ⟨gl, hgl⟩ : ∃ q, w4.heap.size = q := ⟨_, rfl⟩
  obtain ⟨wq, hwq⟩ : ∃ w', w4.alloc (.cells #[.int .u8 0, .int .u8 0, .int .u8 0, .int .u8 0, .int .u8 0, .int .u8 0, .int .u8 0, .int .u8 0, .slice none 0 0, .slice none 0 0] 39) = w' := ⟨_, rfl⟩
  have hbn : Below w4.heap.size w4 wq := hwq ▸ below_new w4 _
  have kt : Bk wq gl 39 ([] ++ (zPf ++ [])) := by rw [← hwq]; exact Bk.at_ w4 _ _ hgl rfl
  rw [hgl, hwq]
  refine wpList_store_part rfl 39 _ _ rfl gl 0 (.agg (pfC k (.slice none 0 0) (.slice none 0 0)).toArray) (pfC k (.slice none 0 0) (.slice none 0 0)) rfl rfl rfl 39 [] zPf [] kt rfl (by rw [pfC_len HHO.out]; rfl) (pf_sz HHO.out _ _) (pf_one _ _ _ _ _ _ _) ?_
  intro w5 hp
  have hbn : Below w4.heap.size w4 w5 := hbn.grown hp.only hbn.size (fun q' hq' => by injection hq' with hq'; omega)
  have HD5 : Hid (PdS w w5 z gs g gl s1 k (.slice none 0 0) (.slice none 0 0) [] []) := by
    have hgg := HGG.out
    have hgl' : gs < gl := by have := HS4.out.sb.lt; rw [← hgl]; exact this
    exact ⟨HS4.out.later hbn, by have := hp.bk; simpa using this, HZ4.out.later hbn, World.ownsRow_nil _ _ _ _, World.ownsRow_nil _ _ _ _, fun p hp => by simp at hp, HHO.out, below_then HB4.out hbn, hgg.2.2, hgg.1, hgl'⟩
  clear hbn hp kt hgl hwq HS4 HZ4 HB4
  go_wp2_with fail
  obtain ⟨⟨s2, v2⟩, hR⟩ : ∃ R, srcNum s1 8 = R := ⟨_, rfl⟩
  have HRs2 := Lib.hid hR
  have hnn := srcNum_any w5 gs g s1 HD5.out.sr 8 (by decide) (by decide)
  have hrg := srcNum_rng (s := s1) (most := 8) HD5.out.sr.rd.ok (by decide)
  rw [hR] at hnn hrg
  have HN := Lib.hid hnn
  have HRG : Hid (0 ≤ v2 ∧ v2 ≤ 8) := hrg
  clear hnn hR hrg
  refine HN.out.mono ?_
  rintro e wy ⟨rfl, hs, ht⟩
  have HDy := Lib.hid (HD5.out.turn ht hs)
  clear hs ht HN HD5
  obtain ⟨m, hm⟩ : ∃ m : Nat, v2 = m := ⟨(v2).toNat, by have := HRG.out; omega⟩
  subst hm
  have H8m : Hid (m ≤ 8) := by have := HRG.out; show m ≤ 8; omega
  clear HRG
  go_wp2_with fail
  have hcf : ∀ cap w, (callFunc 56 cap).run Try.prog w = .ok (.enter 56 cap) w := by intro cap w; kernel_rfl
  have hea := each_any 56 #[.pointer (some ⟨gl, 0, none⟩), .pointer (some ⟨gs, 0, none⟩)] (hcf _) wy gs g m (by have := H8m.out; omega) (fun i => (itN payF s2 i).1)
    (fun i w' => i ≤ m ∧ ∃ (P : Option Addr) (c : Nat), PdS w w' z gs g gl (itN payF s2 i).1 k (.slice P (itN payF s2 i).2.length c) (.slice none 0 0) (itN payF s2 i).2 [])
    ⟨Nat.zero_le _, none, 0, HDy.out⟩ (fun i w' h => by obtain ⟨_, P, c, h⟩ := h; exact h.sr) (fun i w' hk he h => by
      obtain ⟨_, P, c, h⟩ := h
      refine (ppay_any w w' z gs g gl (itN payF s2 i).1 k P c (.slice none 0 0) (itN payF s2 i).2 [] h (by have := itN_len (f := payF) (s := s2) i; have := H8m.out; omega)).mono ?_
      rintro e w'' ⟨rfl, P', c', h'⟩
      have hk1 : itN payF s2 (i + 1) = ((payF (itN payF s2 i).1).1, (itN payF s2 i).2 ++ [(payF (itN payF s2 i).1).2]) := by rw [itN, if_pos he]
      exact ⟨rfl, by omega, P', c', by rw [hk1]; exact h'⟩)
  have HEA := Lib.hid hea
  clear hea hcf
  refine HEA.out.mono ?_
  rintro e w7 ⟨rfl, kk, hkm, ⟨_, P, pc, h8⟩, hst⟩
  have hkk : itN payF s2 m = itN payF s2 kk := by
    rcases hst with rfl | hst
    · rfl
    · have := itN_stop hst (m - kk)
      rwa [Nat.add_sub_cancel' hkm] at this
  rw [← hkk] at h8
  obtain ⟨⟨s3, zs⟩, hR⟩ : ∃ R, itN payF s2 m = R := ⟨_, rfl⟩
  have HR3 := Lib.hid hR
  rw [hR] at h8
  have HD7 : Hid (PdS w w7 z gs g gl s3 k (.slice P zs.length pc) (.slice none 0 0) zs []) := h8
  clear hkm hst hkk hR h8 HEA HDy
  go_wp2_with fail
  obtain ⟨⟨s4, v4⟩, hR⟩ : ∃ R, srcNum s3 8 = R := ⟨_, rfl⟩
  have HRs4 := Lib.hid hR
  have hnn := srcNum_any w7 gs g s3 HD7.out.sr 8 (by decide) (by decide)
  have hrg := srcNum_rng (s := s3) (most := 8) HD7.out.sr.rd.ok (by decide)
  rw [hR] at hnn hrg
  have HN := Lib.hid hnn
  have HRG : Hid (0 ≤ v4 ∧ v4 ≤ 8) := hrg
  clear hnn hR hrg
  refine HN.out.mono ?_
  rintro e wy ⟨rfl, hs, ht⟩
  have HDy := Lib.hid (HD7.out.turn ht hs)
  clear hs ht HN HD7
  obtain ⟨q, hm⟩ : ∃ m : Nat, v4 = m := ⟨(v4).toNat, by have := HRG.out; omega⟩
  subst hm
  have H8q : Hid (q ≤ 8) := by have := HRG.out; show q ≤ 8; omega
  clear HRG
  go_wp2_with fail
  have hcf : ∀ cap w, (callFunc 57 cap).run Try.prog w = .ok (.enter 57 cap) w := by intro cap w; kernel_rfl
  have hea := each_any 57 #[.pointer (some ⟨gl, 0, none⟩), .pointer (some ⟨gs, 0, none⟩)] (hcf _) wy gs g q (by have := H8q.out; omega) (fun i => (itN sigF s4 i).1)
    (fun i w' => i ≤ q ∧ ∃ (R : Option Addr) (d : Nat) (ps : List Pc), ps.map Pc.bs = (itN sigF s4 i).2 ∧ PdS w w' z gs g gl (itN sigF s4 i).1 k (.slice P zs.length pc) (.slice R ps.length d) zs ps)
    ⟨Nat.zero_le _, none, 0, [], rfl, HDy.out⟩ (fun i w' h => by obtain ⟨_, R, d, ps, _, h⟩ := h; exact h.sr) (fun i w' hk he h => by
      obtain ⟨_, R, d, ps, hps, h⟩ := h
      refine (psig_any w w' z gs g gl (itN sigF s4 i).1 k R d (.slice P zs.length pc) zs ps h (by have h1 := itN_len (f := sigF) (s := s4) i; have h2 := H8q.out; rw [← hps, List.length_map] at h1; omega)).mono ?_
      rintro e w'' ⟨rfl, R', d', p, hp1, _, h'⟩
      have hk1 : itN sigF s4 (i + 1) = ((sigF (itN sigF s4 i).1).1, (itN sigF s4 i).2 ++ [(sigF (itN sigF s4 i).1).2]) := by rw [itN, if_pos he]
      exact ⟨rfl, by omega, R', d', ps ++ [p], by rw [hk1, List.map_append, hps, List.map_cons, List.map_nil, hp1], by rw [hk1]; exact h'⟩)
  have HEA := Lib.hid hea
  clear hea hcf
  refine HEA.out.mono ?_
  rintro e w9 ⟨rfl, kk, hkm, ⟨_, R, rc, ps, hps, h8⟩, hst⟩
  have hkk : itN sigF s4 q = itN sigF s4 kk := by
    rcases hst with rfl | hst
    · rfl
    · have := itN_stop hst (q - kk)
      rwa [Nat.add_sub_cancel' hkm] at this
  rw [← hkk] at h8 hps
  obtain ⟨⟨s5, L⟩, hR⟩ : ∃ R, itN sigF s4 q = R := ⟨_, rfl⟩
  have HR5 := Lib.hid hR
  rw [hR] at h8 hps
  have HD9 : Hid (PdS w w9 z gs g gl s5 k (.slice P zs.length pc) (.slice R ps.length rc) zs ps) := h8
  have HPS : Hid (ps.map Pc.bs = L) := hps
  clear hkm hst hkk hR h8 HEA HDy hps
  have HDE0 : Hid (D = decP5 k zs L s5) := by
    show _ = _
    rw [← HDL.out, decPf, HS0.out, HR1.out]
    show decP3 k s1 = _
    rw [decP3, HRs2.out]
    show decP4 k (itN payF s2 ((m : Nat) : Int).toNat).2 (itN payF s2 ((m : Nat) : Int).toNat).1 = _
    rw [Int.toNat_natCast, HR3.out]
    show decP4 k zs s3 = _
    rw [decP4, HRs4.out]
    show decP5 k zs (itN sigF s4 ((q : Nat) : Int).toNat).2 (itN sigF s4 ((q : Nat) : Int).toNat).1 = _
    rw [Int.toNat_natCast, HR5.out]
  clear HDL HS0 HR1 HRs2 HR3 HRs4 HR5
  go_wp2_with fail
  obtain ⟨x, hx⟩ : ∃ x, srcEnd s5 = x := ⟨_, rfl⟩
  have hnn := srcEnd_any w9 gs g s5 HD9.out.sr
  rw [decP5, hx] at HDE0
  rw [hx] at hnn
  have HN := Lib.hid hnn
  clear hnn hx
  refine HN.out.mono ?_
  rintro e w12 ⟨rfl, ht⟩
  have hgg := HGG.out
  have HL12 := Lib.hid (ht.bk HD9.out.lk (by have := HD9.out.gg; omega) (by have := HD9.out.gg; omega)); have HZ12 := Lib.hid (ht.bk HD9.out.rs (by omega) (by omega)); have HB12 := Lib.hid (ht.below HD9.out.hb HD9.out.hb.size (by omega) (by omega))
  have HO12 := Lib.hid (ht.own HD9.out.r1 (HD9.out.sr.ne_g HD9.out.r1 (by decide) (by decide)).1 (HD9.out.sr.ne_g HD9.out.r1 (by decide) (by decide)).2)
  have HQ12 := Lib.hid (ht.own HD9.out.r2 (HD9.out.sr.ne_g HD9.out.r2 (by decide) (by decide)).1 (HD9.out.sr.ne_g HD9.out.r2 (by decide) (by decide)).2)
  have HP12 : Hid (PcsOwn w12 gl ps) := fun p hp => ht.own (HD9.out.po p hp) (HD9.out.sr.ne_g (HD9.out.po p hp) (by decide) (by decide)).1 (HD9.out.sr.ne_g (HD9.out.po p hp) (by decide) (by decide)).2
  have HGL : Hid (w.heap.size ≤ gl) := by show _ ≤ gl; have := HD9.out.gg; omega
  clear ht HN HD9 hgg
  by_cases hx0 : x = 0
  · subst hx0
    have HDE : Hid (D = ⟨k, zs, L, 0⟩) := by show _ = _; rw [HDE0.out, if_pos rfl]
    have HSL := Lib.hid (pf_sz HHO.out (.slice P zs.length pc) (.slice R ps.length rc))
    clear HDE0
    go_wp2_with (first
      | (with_reducible refine wpList_load_bk rfl 39 _ rfl gl rfl (pfC k (.slice P zs.length pc) (.slice R ps.length rc)) 39 HL12.out _ Try.underlying39 rfl HSL.out ?_)
      | (with_reducible refine stop_store 39 _ _ rfl ?_))
    refine StopD.go ?_
    refine wpList_store_part rfl 39 _ _ rfl z 0 (.agg (pfC k (.slice P zs.length pc) (.slice R ps.length rc)).toArray) (pfC k (.slice P zs.length pc) (.slice R ps.length rc)) rfl rfl rfl 39 [] zPf [] (by simpa using HZ12.out) rfl (by rw [pfC_len HHO.out]; rfl) HSL.out (pf_one _ _ _ _ _ _ _) ?_
    intro wz hp
    have HRz : Hid (Bk wz z 39 (pfC k (.slice P zs.length pc) (.slice R ps.length rc))) := by show Bk _ _ _ _; have := hp.bk; simpa using this
    have HBz := Lib.hid (below_only HB12.out hp.only HB12.out.size (Nat.le_of_eq HZ.out))
    have HOz := Lib.hid (own_base (own_only HO12.out hp.only (own_bk_ne HO12.out HZ12.out (by decide))) HGL.out)
    have HQz := Lib.hid (own_base (own_only HQ12.out hp.only (own_bk_ne HQ12.out HZ12.out (by decide))) HGL.out)
    have HPz : Hid (PcsOwn wz w.heap.size ps) := fun p hp' => own_base (own_only (HP12.out p hp') hp.only (own_bk_ne (HP12.out p hp') HZ12.out (by decide))) HGL.out
    clear hp
    go_wp2_with fail
    refine bodyPost_ret (decp_ret (pfC_len HHO.out _ _) HRz.out _ rfl rfl) rfl ?_
    rw [HDE.out]
    exact ⟨P, pc, R, rc, ps, rfl, HOz.out, HQz.out, HPz.out, HPS.out, HHO.out, HBz.out⟩
  · have HDE : Hid (D = ⟨zeroD, [], [], x⟩) := by show _ = _; rw [HDE0.out, if_neg hx0]
    have hxn : (x != 0) = true := by simpa using hx0
    clear HDE0 hx0
    have hzl := z_pf
    go_wp2_with (first
      | ((with_reducible refine wpList_build rfl 39 _ rfl #[] ?_ _ (hzl _) ?_); focus (simp [Act.eval, Act.put]; done))
      | (with_reducible refine stop_store 39 _ _ rfl ?_))
    clear hzl
    refine StopD.go ?_
    refine wpList_store_part rfl 39 _ _ rfl z 0 (.agg zPf.toArray) zPf rfl rfl rfl 39 [] zPf [] (by simpa using HZ12.out) rfl rfl zpf_size (pf_one _ _ _ _ _ _ _) ?_
    intro wz hp
    have HRz : Hid (Bk wz z 39 zPf) := by show Bk _ _ _ _; have := hp.bk; simpa using this
    have HBz := Lib.hid (below_only HB12.out hp.only HB12.out.size (Nat.le_of_eq HZ.out))
    clear hp
    go_wp2_with fail
    refine bodyPost_ret (decp_ret rfl HRz.out _ rfl rfl) rfl ?_
    rw [HDE.out]
    exact ⟨none, 0, none, 0, [], rfl, World.ownsRow_nil _ _ _ _, World.ownsRow_nil _ _ _ _, fun p hp => by simp at hp, rfl, zero_ok, HBz.out⟩
end Go.Proofs.Ytbclfjdamklbpaa

/-! How the document reads a proof: what stands. -/
namespace Go.Proofs.Ytbclfjdamklbpaa
set_option linter.unusedSimpArgs false
set_option linter.unusedVariables false
open Go.RowKit Go.Maps

/-- So many rounds of a read, whatever goes wrong. -/
def itM {α : Type} (f : Rd → Rd × α) (s : Rd) : Nat → Rd × List α
  | 0 => (s, [])
  | i + 1 => ((f (itM f s i).1).1, (itM f s i).2 ++ [(f (itM f s i).1).2])
theorem itM_len {α : Type} {f : Rd → Rd × α} {s : Rd} : ∀ n, (itM f s n).2.length = n
  | 0 => rfl
  | n + 1 => by
    have := itM_len (f := f) (s := s) n
    show ((itM f s n).2 ++ [_]).length = _
    simp [this]
def payM (s : Rd) : Rd × Int := numR s 1125899906842624
def sigM (s : Rd) : Rd × List Int := someR s 4096
def decQ5 (k zs : List Int) (L : List (List Int)) (s : Rd) : PfJ := if endR s = 0 then ⟨k, zs, L, 0⟩ else ⟨zeroD, [], [], endR s⟩
def decQ4 (k zs : List Int) (s : Rd) : PfJ := decQ5 k zs (itM sigM (numR s 8).1 (numR s 8).2.toNat).2 (itM sigM (numR s 8).1 (numR s 8).2.toNat).1
def decQ3 (k : List Int) (s : Rd) : PfJ := decQ4 k (itM payM (numR s 8).1 (numR s 8).2.toNat).2 (itM payM (numR s 8).1 (numR s 8).2.toNat).1
def decQ (bs : List Int) : PfJ := if (docDg ⟨bs, 0⟩).2 = 0 then decQ3 (docDg ⟨bs, 0⟩).1.2 (docDg ⟨bs, 0⟩).1.1 else ⟨zeroD, [], [], (docDg ⟨bs, 0⟩).2⟩
theorem rdecp_ret {w : World} {g : Nat} {cs : List Value} {n : Int} (hl : cs.length = 10) (h : Bk w g 58 cs) (tmps : Array Value) (h2 : tmps.getD 2 undef = .pointer (some ⟨g, 0, none⟩)) (h3 : tmps.getD 3 undef = .int .i64 n) :
    (results Try.f27 tmps).run Try.prog w = .ok (.tuple #[.agg cs.toArray, .int .i64 n]) w := by
  have r1 : w.rangeAt g 0 cs := Bk.range (pre := []) (post := []) (by simpa using h) rfl
  have l1 := run_loadVar_mid (P := Try.prog) w g 0 58 cs _ r1 Try.underlying58 rfl (by rw [hl]; kernel_rfl)
  rw [Array.getD_eq_getD_getElem?] at h2 h3
  simp [results, Try.results27, h2, h3, asAddr, l1]
theorem build_rpf (h : List Int) (hh : DgOk h) (w : World) : (Instr.build 58 #[(0, .agg (dl h).toArray)]).run Try.prog w = .ok (.agg (pfC h (.slice none 0 0) (.slice none 0 0)).toArray) w := by
  obtain ⟨x0, x1, x2, x3, x4, x5, x6, x7, rfl⟩ := list8 h hh.len
  kernel_rfl
theorem rz_pf (w : World) : (Instr.build 58 #[]).run Try.prog w = .ok (.agg zPf.toArray) w := by kernel_rfl
theorem rzpf_size : (Try.prog.info? 58).map (·.size) = some zPf.length := by kernel_rfl
theorem rpf_sz {key : List Int} (hh : DgOk key) (p q : Value) : (Try.prog.info? 58).map (·.size) = some (pfC key p q).length := by rw [pfC_len hh]; kernel_rfl
/-- The reader, and what it stands at. -/
structure RqM (w0 w : World) (z g4 : Nat) (s : Rd) : Prop where
  rv : ∃ (A : Option Addr) (n c : Nat) (k : Int), Bk w g4 117 (rvC A n c k s.err) ∧ RvAt w w0.heap.size (.agg (rvC A n c k s.err).toArray) s
  rs : Bk w z 58 zPf
  hb : Below w0.heap.size w0 w
  z0 : w0.heap.size ≤ z
  zg : z < g4
structure RqS (w0 w : World) (z g4 g7 : Nat) (s : Rd) (k : List Int) (v1 v2 : Value) (zs : List Int) (ps : List Pc) : Prop extends RqM w0 w z g4 s where
  lk : Bk w g7 58 (pfC k v1 v2)
  r1 : w.ownsRow w0.heap.size 3 1 v1 zs.length (zs.map (.int .i64))
  r2 : w.ownsRow w0.heap.size 56 1 v2 ps.length (ps.map Pc.v)
  po : PcsOwn w w0.heap.size ps
  kd : DgOk k
  gg : g4 < g7
section
variable {w0 w wn wp : World} {z g4 g7 : Nat} {s s' : Rd} {k : List Int} {v1 v2 v' : Value} {zs : List Int} {ps : List Pc} {x : Int} {p : Pc}
theorem RqM.later (h : RqM w0 w z g4 s) (hb : Below w.heap.size w wn) : RqM w0 wn z g4 s := by
  obtain ⟨A, n, c, k, h1, h2⟩ := h.rv
  exact ⟨⟨A, n, c, k, h1.later hb, h2.below (hb.mono h.hb.size)⟩, h.rs.later hb, below_then h.hb hb, h.z0, h.zg⟩
theorem RqS.later (h : RqS w0 w z g4 g7 s k v1 v2 zs ps) (hb : Below w.heap.size w wn) : RqS w0 wn z g4 g7 s k v1 v2 zs ps :=
  { h.toRqM.later hb with lk := h.lk.later hb, r1 := own_keep h.r1 hb, r2 := own_keep h.r2 hb, po := h.po.later hb, kd := h.kd, gg := h.gg }
theorem RqM.bel (h : RqM w0 w z g4 s) {q : Nat} (hg : w.grownBy wn (some q)) (hq : w0.heap.size ≤ q) : Below w0.heap.size w wn := (Below.refl _ _).grown hg h.hb.size (fun k hk => by injection hk with hk; omega)
theorem RqM.put {A : Option Addr} {n c : Nat} {k : Int} (h : RqM w0 w z g4 s) (hr : RvAt w w0.heap.size (.agg (rvC A n c k s'.err).toArray) s') (hp : Put w wn g4 117 (rvC A n c k s'.err)) : RqM w0 wn z g4 s' := by
  have h1 := h.z0; have h2 := h.zg
  exact ⟨⟨A, n, c, k, hp.bk, hr.below (h.bel hp.only (by omega))⟩, h.rs.grown hp.only (by intro e; injection e with e; omega), below_only h.hb hp.only h.hb.size (by omega), h.z0, h.zg⟩
theorem RqS.putR {A : Option Addr} {n c : Nat} {j : Int} (h : RqS w0 w z g4 g7 s k v1 v2 zs ps) (hr : RvAt w w0.heap.size (.agg (rvC A n c j s'.err).toArray) s') (hp : Put w wn g4 117 (rvC A n c j s'.err)) : RqS w0 wn z g4 g7 s' k v1 v2 zs ps := by
  have h1 := h.z0; have h2 := h.zg; have h3 := h.gg
  obtain ⟨A0, n0, c0, k0, hk, _⟩ := h.rv
  exact { h.toRqM.put hr hp with lk := h.lk.grown hp.only (by intro e; injection e with e; omega), r1 := own_only h.r1 hp.only (own_bk_ne h.r1 hk (by decide)), r2 := own_only h.r2 hp.only (own_bk_ne h.r2 hk (by decide)), po := fun q hq => own_only (h.po q hq) hp.only (own_bk_ne (h.po q hq) hk (by decide)), kd := h.kd, gg := h.gg }
theorem RqS.app1 (h : RqS w0 w z g4 g7 s k v1 v2 zs ps) (ho : wn.ownsRow w0.heap.size 3 1 v' (zs.length + 1) (zs.map (.int .i64) ++ [.int .i64 x])) (hg : w.grownBy wn v1.ownBlock) (hp : Put wn wp g7 58 (pfC k v' v2)) : RqS w0 wp z g4 g7 s k v' v2 (zs ++ [x]) ps := by
  have e1 := h.z0; have e2 := h.zg; have e3 := h.gg
  obtain ⟨A0, n0, c0, k0, hk, hr⟩ := h.rv
  have b1 := hk.grown hg (Ne.symm (own_bk_ne h.r1 hk (by decide)))
  have lkn := h.lk.grown hg (Ne.symm (own_bk_ne h.r1 h.lk (by decide)))
  have rsn := h.rs.grown hg (Ne.symm (own_bk_ne h.r1 h.rs (by decide)))
  have r2n := own_apart h.r2 h.r1 (by decide) hg
  have pon := h.po.apart h.r1 (by decide) hg
  have hb1 := grown_below h.hb h.r1 hg (Nat.le_refl _) h.hb.size
  have hb2 : Below w0.heap.size w wn := grown_below (Below.refl _ _) h.r1 hg (Nat.le_refl _) h.hb.size
  have hb3 : Below w0.heap.size wn wp := (Below.refl _ _).grown hp.only hb1.size (fun k hk => by injection hk with hk; omega)
  have ho' : wn.ownsRow w0.heap.size 3 1 v' (zs ++ [x]).length ((zs ++ [x]).map (.int .i64)) := by simpa using ho
  exact ⟨⟨⟨A0, n0, c0, k0, b1.grown hp.only (by intro e; injection e with e; omega), (hr.below hb2).below hb3⟩, rsn.grown hp.only (by intro e; injection e with e; omega), below_only hb1 hp.only hb1.size (by omega), h.z0, h.zg⟩, hp.bk, own_only ho' hp.only (own_bk_ne ho' lkn (by decide)), own_only r2n hp.only (own_bk_ne r2n lkn (by decide)), fun q hq => own_only (pon q hq) hp.only (own_bk_ne (pon q hq) lkn (by decide)), h.kd, h.gg⟩
theorem RqS.app2 (h : RqS w0 w z g4 g7 s k v1 v2 zs ps) (hq : w.ownsRow w0.heap.size 5 1 p.v p.n (p.bs.map (.int .u8))) (ho : wn.ownsRow w0.heap.size 56 1 v' (ps.length + 1) (ps.map Pc.v ++ [p.v])) (hg : w.grownBy wn v2.ownBlock) (hp : Put wn wp g7 58 (pfC k v1 v')) : RqS w0 wp z g4 g7 s k v1 v' zs (ps ++ [p]) := by
  have e1 := h.z0; have e2 := h.zg; have e3 := h.gg
  obtain ⟨A0, n0, c0, k0, hk, hr⟩ := h.rv
  have b1 := hk.grown hg (Ne.symm (own_bk_ne h.r2 hk (by decide)))
  have lkn := h.lk.grown hg (Ne.symm (own_bk_ne h.r2 h.lk (by decide)))
  have rsn := h.rs.grown hg (Ne.symm (own_bk_ne h.r2 h.rs (by decide)))
  have r1n := own_apart h.r1 h.r2 (by decide) hg
  have pon : PcsOwn wn w0.heap.size (ps ++ [p]) := fun q hq' => by
    rcases List.mem_append.1 hq' with hq' | hq'
    · exact h.po.apart h.r2 (by decide) hg q hq'
    · rw [List.mem_singleton] at hq'; subst hq'; exact own_apart hq h.r2 (by decide) hg
  have hb1 := grown_below h.hb h.r2 hg (Nat.le_refl _) h.hb.size
  have hb2 : Below w0.heap.size w wn := grown_below (Below.refl _ _) h.r2 hg (Nat.le_refl _) h.hb.size
  have hb3 : Below w0.heap.size wn wp := (Below.refl _ _).grown hp.only hb1.size (fun k hk => by injection hk with hk; omega)
  have ho' : wn.ownsRow w0.heap.size 56 1 v' (ps ++ [p]).length ((ps ++ [p]).map Pc.v) := by simpa using ho
  exact ⟨⟨⟨A0, n0, c0, k0, b1.grown hp.only (by intro e; injection e with e; omega), (hr.below hb2).below hb3⟩, rsn.grown hp.only (by intro e; injection e with e; omega), below_only hb1 hp.only hb1.size (by omega), h.z0, h.zg⟩, hp.bk, own_only r1n hp.only (own_bk_ne r1n lkn (by decide)), own_only ho' hp.only (own_bk_ne ho' lkn (by decide)), fun q hq => own_only (pon q hq) hp.only (own_bk_ne (pon q hq) lkn (by decide)), h.kd, h.gg⟩
/-- Another block turns that lies behind the proof's. -/
theorem RqS.other7 (h : RqS w0 w z g4 g7 s k v1 v2 zs ps) {q : Nat} {ty : TypeId} {ys : List Value} (hg : w.grownBy wn (some q)) (hq : g7 < q) (hy : Bk w q ty ys) (t1 : 3 ≠ ty) (t2 : 56 ≠ ty) (t3 : 5 ≠ ty) : RqS w0 wn z g4 g7 s k v1 v2 zs ps := by
  have h1 := h.z0; have h2 := h.zg; have h3 := h.gg
  obtain ⟨A0, n0, c0, k0, hk, hr⟩ := h.rv
  exact ⟨⟨⟨A0, n0, c0, k0, hk.grown hg (by intro e; injection e with e; omega), hr.below (h.toRqM.bel hg (by omega))⟩, h.rs.grown hg (by intro e; injection e with e; omega), below_only h.hb hg h.hb.size (by omega), h.z0, h.zg⟩, h.lk.grown hg (by intro e; injection e with e; omega), own_only h.r1 hg (own_bk_ne h.r1 hy t1), own_only h.r2 hg (own_bk_ne h.r2 hy t2), fun p hp => own_only (h.po p hp) hg (own_bk_ne (h.po p hp) hy t3), h.kd, h.gg⟩
end
end Go.Proofs.Ytbclfjdamklbpaa

/-! How the document reads a proof: the walk. -/
namespace Go.Proofs.Ytbclfjdamklbpaa
set_option linter.unusedSimpArgs false
set_option linter.unusedVariables false
open Go.RowKit Go.Maps

set_option maxRecDepth 20000 in
set_option maxHeartbeats 8000000 in
theorem rpdec_any (w : World) (A : Option Addr) (n c : Nat) (bs : List Int) (ho : ByOk bs) (hs : Sl w w.heap.size 1 A n (bs.map (.int .u8))) (hn : n ≤ 1073741824) (hc : n ≤ c) :
    Calls Try.prog 27 #[.slice A n c] w (RetDp (decQ bs) w) := by
  obtain ⟨z, hz⟩ : ∃ z, w.heap.size = z := ⟨_, rfl⟩
  obtain ⟨w1, hw1⟩ : ∃ w1, w.alloc (.cells #[.int .u8 0, .int .u8 0, .int .u8 0, .int .u8 0, .int .u8 0, .int .u8 0, .int .u8 0, .int .u8 0, .slice none 0 0, .slice none 0 0] 58) = w1 := ⟨_, rfl⟩
  have hb1 : Below w.heap.size w w1 := hw1 ▸ below_new w _
  have kz : Bk w1 z 58 zPf := hw1 ▸ Bk.at_ w _ _ hz rfl
  have HW := Lib.hid hw1; have HB1 := Lib.hid hb1; have HZ1 := Lib.hid kz; have HZ := Lib.hid hz
  have HRV0 := Lib.hid (RvAt.new hs ho hn hc)
  obtain ⟨D, hD⟩ : ∃ D, decQ bs = D := ⟨_, rfl⟩
  have HDL := Lib.hid hD
  rw [hD]
  clear hw1 hb1 kz hz hs ho hD hn hc
  go_enter Try.func27, Try.ntmps27
  go_upto_region 1 with fail
  rw [HW.out, HZ.out]
  have hbr := build_rv A n c
  go_wp2_with (first
    | ((with_reducible refine wpList_build rfl 117 _ rfl #[(0, .slice A n c)] ?_ _ (hbr _) ?_); focus (simp [Act.eval, Act.put]; done))
    | (with_reducible refine stop_store 117 _ _ rfl ?_))
  clear hbr
  refine StopD.go ?_
  obtain ⟨g4, hg4⟩ : ∃ q, w1.heap.size = q := ⟨_, rfl⟩
  obtain ⟨wq, hwq⟩ : ∃ w', w1.alloc (.cells #[.slice none 0 0, .int .i64 0, .int .i64 0] 117) = w' := ⟨_, rfl⟩
  have hbn : Below w1.heap.size w1 wq := hwq ▸ below_new w1 _
  have kt : Bk wq g4 117 ([] ++ (zRv ++ [])) := by rw [← hwq]; exact Bk.at_ w1 _ _ hg4 rfl
  rw [hg4, hwq]
  refine wpList_store_part rfl 117 _ _ rfl g4 0 (.agg (rvC A n c 0 0).toArray) (rvC A n c 0 0) rfl rfl rfl 117 [] _ [] kt rfl rfl rv_size (rv_one _ _ _ _ _) ?_
  intro w3 hp
  have hbn : Below w1.heap.size w1 w3 := hbn.grown hp.only hbn.size (fun q' hq' => by injection hq' with hq'; omega)
  obtain ⟨s1, hs0⟩ : ∃ s : Rd, ⟨bs, 0⟩ = s := ⟨_, rfl⟩
  have HS0 := Lib.hid hs0
  have HM3 : Hid (RqM w w3 z g4 s1) := by
    have hz1 := HZ1.out.lt
    have hb2 := below_then HB1.out hbn
    refine ⟨⟨A, n, c, 0, ?_, ?_⟩, HZ1.out.later hbn, hb2, Nat.le_of_eq HZ.out, by omega⟩
    · rw [← hs0]; have := hp.bk; simpa using this
    · rw [← hs0]; exact HRV0.out.below hb2
  clear hp hbn kt hg4 hwq hs0 HZ1 HB1 HRV0
  obtain ⟨A4, n4, c4, k4, hk4, hr4⟩ := HM3.out.rv
  obtain ⟨z0, z1, z2⟩ := rv_cells hk4
  obtain ⟨⟨⟨s2, hd⟩, x2⟩, hR⟩ : ∃ R, docDg s1 = R := ⟨_, rfl⟩
  have HR4 := Lib.hid hR
  have hnn := rdg_any w3 w.heap.size HM3.out.hb.size _ s1 hr4
  have hdo := docDg_ok hr4.ok
  rw [hR] at hnn hdo
  have HN := Lib.hid hnn; have HHO : Hid (DgOk hd) := hdo
  clear hk4 hr4 hnn hR hdo
  go_wp2_with fail
  clear z0 z1 z2
  refine HN.out.mono ?_
  rintro e w4 ⟨v, rfl, hrv, hbn⟩
  obtain ⟨A5, n5, c5, k5, hv5⟩ := hrv.form
  subst hv5
  have HM4 := Lib.hid (HM3.out.later hbn); have HRV := Lib.hid hrv
  clear hrv hbn HM3 HN
  go_wp2_with (with_reducible refine stop_store 117 _ _ rfl ?_)
  refine StopD.go ?_
  obtain ⟨g6, hg6⟩ : ∃ q, w4.heap.size = q := ⟨_, rfl⟩
  obtain ⟨wq, hwq⟩ : ∃ w', w4.alloc (.cells #[.int .u8 0, .int .u8 0, .int .u8 0, .int .u8 0, .int .u8 0, .int .u8 0, .int .u8 0, .int .u8 0] 22) = w' := ⟨_, rfl⟩
  have hbn : Below w4.heap.size w4 wq := hwq ▸ below_new w4 _
  have HD5 : Hid (Bk wq g6 22 (dl zeroD)) := by show Bk _ _ _ _; rw [← hwq]; exact Bk.at_ w4 _ _ hg6 rfl
  have HM5 := Lib.hid (HM4.out.later hbn)
  have HRV5 := Lib.hid (HRV.out.below (hbn.mono HM4.out.hb.size))
  have HG6 : Hid (g4 < g6) := by obtain ⟨_, _, _, _, hk, _⟩ := HM4.out.rv; have := hk.lt; show g4 < g6; omega
  rw [hg6, hwq]
  clear hbn hg6 hwq HM4 HRV
  obtain ⟨A6, n6, c6, k6, hk6, _⟩ := HM5.out.rv
  refine wpList_store_part rfl 117 _ _ rfl g4 0 (.agg (rvC A5 n5 c5 k5 s2.err).toArray) (rvC A5 n5 c5 k5 s2.err) rfl rfl rfl 117 [] (rvC A6 n6 c6 k6 s1.err) [] (by simpa using hk6) rfl rfl rv_size (rv_one _ _ _ _ _) ?_
  intro w6 hp
  have HM6 := Lib.hid (HM5.out.put (s' := s2) HRV5.out (by simpa using hp))
  have HD6 := Lib.hid (HD5.out.grown hp.only (by intro e; injection e with e; have := HG6.out; omega))
  clear hp hk6 HM5 HRV5 HD5
  have HDS : Hid ((Try.prog.info? 22).map (·.size) = some (dl hd).length) := by show _ = _; rw [dl_len, HHO.out.len]; kernel_rfl
  go_wp2_with (with_reducible refine stop_store 22 _ _ rfl ?_)
  refine StopD.go ?_
  refine wpList_store_part rfl 22 _ _ rfl g6 0 (.agg (dl hd).toArray) (dl hd) rfl rfl rfl 22 [] (dl zeroD) [] (by simpa using HD6.out) rfl (by rw [show (dl hd).length = 8 by rw [dl_len, HHO.out.len]] <;> rfl) HDS.out (dl_one' _) ?_
  intro w7 hp
  have HD7 : Hid (Bk w7 g6 22 (dl hd)) := by show Bk _ _ _ _; have := hp.bk; simpa using this
  have HM7 : Hid (RqM w w7 z g4 s2) := by
    have h1 := HG6.out; have h2 := HM6.out.z0; have h3 := HM6.out.zg
    obtain ⟨a1, a2, a3, a4, a5, a6⟩ := HM6.out.rv
    exact ⟨⟨a1, a2, a3, a4, a5.grown hp.only (by intro e; injection e with e; omega), a6.below (HM6.out.bel hp.only (by omega))⟩, HM6.out.rs.grown hp.only (by intro e; injection e with e; omega), below_only HM6.out.hb hp.only HM6.out.hb.size (by omega), h2, h3⟩
  clear hp HM6 HD6
  have HD1 : Hid (D = if x2 = 0 then decQ3 hd s2 else ⟨zeroD, [], [], x2⟩) := by
    show _ = _
    rw [← HDL.out, decQ, HS0.out, HR4.out]
  clear HDL HS0 HR4
  by_cases hx : x2 = 0
  · subst hx
    have HD2 : Hid (D = decQ3 hd s2) := by show _ = _; rw [HD1.out]; exact if_pos rfl
    clear HD1
    have hbl := build_rpf hd HHO.out
    go_wp2_with (first
      | (with_reducible refine wpList_load_bk rfl 22 _ rfl g6 rfl (dl hd) 22 HD7.out _ Try.underlying22 rfl HDS.out ?_)
      | ((with_reducible refine wpList_build rfl 58 _ rfl #[(0, .agg (dl hd).toArray)] ?_ _ (hbl _) ?_); focus (simp [Act.eval, Act.put]; done))
      | (with_reducible refine stop_store 58 _ _ rfl ?_))
    clear hbl
    refine StopD.go ?_
    obtain ⟨g7, hg8⟩ : ∃ q, w7.heap.size = q := ⟨_, rfl⟩
    obtain ⟨wq, hwq⟩ : ∃ w', w7.alloc (.cells #[.int .u8 0, .int .u8 0, .int .u8 0, .int .u8 0, .int .u8 0, .int .u8 0, .int .u8 0, .int .u8 0, .slice none 0 0, .slice none 0 0] 58) = w' := ⟨_, rfl⟩
    have hbn : Below w7.heap.size w7 wq := hwq ▸ below_new w7 _
    have kt : Bk wq g7 58 ([] ++ (zPf ++ [])) := by rw [← hwq]; exact Bk.at_ w7 _ _ hg8 rfl
    rw [hg8, hwq]
    refine wpList_store_part rfl 58 _ _ rfl g7 0 (.agg (pfC hd (.slice none 0 0) (.slice none 0 0)).toArray) (pfC hd (.slice none 0 0) (.slice none 0 0)) rfl rfl rfl 58 [] zPf [] kt rfl (by rw [pfC_len HHO.out]; rfl) (rpf_sz HHO.out _ _) (pf_one _ _ _ _ _ _ _) ?_
    intro w8 hp
    have hbn : Below w7.heap.size w7 w8 := hbn.grown hp.only hbn.size (fun q' hq' => by injection hq' with hq'; omega)
    have HM8 : Hid (RqS w w8 z g4 g7 s2 hd (.slice none 0 0) (.slice none 0 0) [] []) := by
      have hgg : g4 < g7 := by obtain ⟨_, _, _, _, hk, _⟩ := HM7.out.rv; have := hk.lt; omega
      exact { HM7.out.later hbn with lk := by have := hp.bk; simpa using this, r1 := World.ownsRow_nil _ _ _ _, r2 := World.ownsRow_nil _ _ _ _, po := fun p hp => by simp at hp, kd := HHO.out, gg := hgg }
    clear hp hbn kt hg8 hwq HM7 HD7 HG6
    obtain ⟨A4, n4, c4, k4, hk4, hr4⟩ := HM8.out.rv
    obtain ⟨z0, z1, z2⟩ := rv_cells hk4
    obtain ⟨⟨s3, v3⟩, hR⟩ : ∃ R, numR s2 8 = R := ⟨_, rfl⟩
    have HR9 := Lib.hid hR
    have hnn := rRead_any w8 w.heap.size HM8.out.hb.size _ s2 hr4 8
    have hrg := lnum_rng hr4.ok (most := 8) (by decide)
    rw [hR] at hnn hrg
    have HN := Lib.hid hnn; have HG9 := Lib.hid hrg
    clear hk4 hr4 hnn hR hrg
    go_wp2_with fail
    clear z0 z1 z2
    refine HN.out.mono ?_
    rintro e wx ⟨v, rfl, hrv, hbn⟩
    obtain ⟨A5, n5, c5, k5, hv5⟩ := hrv.form
    subst hv5
    have HMx := Lib.hid (HM8.out.later hbn); have HRV := Lib.hid hrv
    clear hrv hbn HM8 HN
    go_wp2_with (with_reducible refine stop_store 117 _ _ rfl ?_)
    refine StopD.go ?_
    obtain ⟨A6, n6, c6, k6, hk6, _⟩ := HMx.out.rv
    refine wpList_store_part rfl 117 _ _ rfl g4 0 (.agg (rvC A5 n5 c5 k5 (s3).err).toArray) (rvC A5 n5 c5 k5 (s3).err) rfl rfl rfl 117 [] (rvC A6 n6 c6 k6 (s2).err) [] (by simpa using hk6) rfl rfl rv_size (rv_one _ _ _ _ _) ?_
    intro w9 hp
    have HM9 := Lib.hid (HMx.out.putR (s' := s3) HRV.out (by simpa using hp))
    clear hp hk6 HMx HRV
    obtain ⟨m, hm⟩ : ∃ m : Nat, v3 = m := ⟨v3.toNat, by have := HG9.out; omega⟩
    subst hm
    have HMM : Hid (m ≤ 8) := by have := HG9.out; show m ≤ 8; omega
    have hw3 : IntKind.i64.wrap (m : Int) = m := IntWalk.i64_in _ (by have := HMM.out; omega)
    have HD3 : Hid (D = decQ4 hd (itM payM s3 m).2 (itM payM s3 m).1) := by
      show _ = _
      rw [HD2.out, decQ3, HR9.out]
      show decQ4 hd (itM payM s3 ((m : Nat) : Int).toNat).2 (itM payM s3 ((m : Nat) : Int).toNat).1 = _
      rw [Int.toNat_natCast]
    clear HD2 HR9 HG9
    go_wp2_with fail
    clear hw3
    go_loopw [9, 10, 11] (fun iv _ _ wr => ∃ (j : Nat) (P : Option Addr) (pc : Nat), j ≤ m ∧ iv = .int .i64 j ∧ Hid (RqS w wr z g4 g7 (itM payM s3 j).1 hd (.slice P (itM payM s3 j).2.length pc) (.slice none 0 0) (itM payM s3 j).2 [])) (fun iv _ _ _ => m - (intOf iv).toNat)
    case atStart => exact ⟨0, none, 0, Nat.zero_le _, rfl, HM9⟩
    case round =>
      clear HM9
      obtain ⟨j, P, pc, hj, rfl, HMr⟩ := hrel
      have hw3 : IntKind.i64.wrap (m : Int) = m := IntWalk.i64_in _ (by have := HMM.out; omega)
      have hkl := itM_len (f := payM) (s := s3) j
      obtain ⟨⟨sj, kj⟩, hrk⟩ : ∃ R, itM payM s3 j = R := ⟨_, rfl⟩
      have HRK := Lib.hid hrk
      rw [hrk] at HMr hkl
      have HMr : Hid (RqS w wr z g4 g7 sj hd (.slice P kj.length pc) (.slice none 0 0) kj []) := HMr
      obtain ⟨q, hq⟩ : ∃ q, kj.length = q := ⟨_, rfl⟩
      have HQ := Lib.hid hq
      have HQ8 : Hid (q ≤ 8) := by have := HMM.out; have h1 : kj.length = j := hkl; show q ≤ 8; omega
      rw [hq] at HMr
      clear hrk hkl hq
      by_cases hlt : j < m
      · have hji : (j : Int) < m := by omega
        have hj0 : (0 : Int) ≤ j := by omega
        obtain ⟨A4, n4, c4, k4, hk4, hr4⟩ := HMr.out.rv
        obtain ⟨z0, z1, z2⟩ := rv_cells hk4
        obtain ⟨⟨s', x⟩, hR⟩ : ∃ R, numR sj 1125899906842624 = R := ⟨_, rfl⟩
        have HRD := Lib.hid hR
        have hnn := rRead_any wr w.heap.size HMr.out.hb.size _ sj hr4 1125899906842624
        have hrg := lnum_rng hr4.ok (most := 1125899906842624) (by decide)
        rw [hR] at hnn hrg
        have HN := Lib.hid hnn; have HXG := Lib.hid hrg
        clear hk4 hr4 hnn hR hrg
        go_wp2_with fail
        clear z0 z1 z2
        refine HN.out.mono ?_
        rintro e wa ⟨v, rfl, hrv, hbn⟩
        obtain ⟨A5, n5, c5, k5, hv5⟩ := hrv.form
        subst hv5
        have HMa := Lib.hid (HMr.out.later hbn); have HRVa := Lib.hid hrv
        clear hrv hbn HMr HN
        go_wp2_with (with_reducible refine stop_store 117 _ _ rfl ?_)
        refine StopD.go ?_
        obtain ⟨g11, hg11⟩ : ∃ q, wa.heap.size = q := ⟨_, rfl⟩
        obtain ⟨wb, hwb⟩ : ∃ w', wa.alloc (.cells #[.slice none 0 0, .int .i64 0, .int .i64 0] 117) = w' := ⟨_, rfl⟩
        have hbn : Below wa.heap.size wa wb := hwb ▸ below_new wa _
        have HRb : Hid (Bk wb g11 117 zRv) := by show Bk _ _ _ _; rw [← hwb]; exact Bk.at_ wa _ _ hg11 rfl
        have HMb := Lib.hid (HMa.out.later hbn); have HRVb := Lib.hid (HRVa.out.below (hbn.mono HMa.out.hb.size))
        skip
        have HG11 : Hid (g7 < g11) := by have := HMa.out.lk.lt; show g7 < g11; omega
        rw [hg11, hwb]
        clear hbn hg11 hwb HMa HRVa
        refine wpList_store_part rfl 117 _ _ rfl g11 0 (.agg (rvC A5 n5 c5 k5 s'.err).toArray) (rvC A5 n5 c5 k5 s'.err) rfl rfl rfl 117 [] zRv [] (by simpa using HRb.out) rfl rfl rv_size (rv_one _ _ _ _ _) ?_
        intro w10 hp
        have hg := HG11.out; have hz0 := HMb.out.z0; have hzg := HMb.out.zg; have hgg := HMb.out.gg
        have HR10 : Hid (Bk w10 g11 117 (rvC A5 n5 c5 k5 s'.err)) := by show Bk _ _ _ _; have := hp.bk; simpa using this
        have HM10 := Lib.hid (HMb.out.other7 hp.only (by omega) HRb.out (by decide) (by decide) (by decide))
        have HRV10 := Lib.hid (HRVb.out.below (HMb.out.toRqM.bel hp.only (by omega)))
        skip
        clear hp HRb HMb HRVb hg hz0 hzg hgg
        obtain ⟨z0, z1, z2⟩ := rv_cells HR10.out
        go_wp2_with (with_reducible refine stop_store 117 _ _ rfl ?_)
        clear z0 z1 z2
        refine StopD.go ?_
        obtain ⟨A6, n6, c6, k6, hk6, _⟩ := HM10.out.rv
        refine wpList_store_part rfl 117 _ _ rfl g4 0 (.agg (rvC A5 n5 c5 k5 s'.err).toArray) (rvC A5 n5 c5 k5 s'.err) rfl rfl rfl 117 [] (rvC A6 n6 c6 k6 sj.err) [] (by simpa using hk6) rfl rfl rv_size (rv_one _ _ _ _ _) ?_
        intro w12 hp
        have HM12 := Lib.hid (HM10.out.putR (s' := s') HRV10.out (by simpa using hp))
        skip
        clear hp hk6 HM10 HR10 HRV10
        have hwx : IntKind.i64.wrap x = x := IntWalk.i64_in _ (by have := HXG.out; omega)
        have c8 := (pf_mem HHO.out HM12.out.lk).c8
        go_wp2_with (with_reducible refine stop_bs 27 _ _ rfl ?_)
        refine StopD.go ?_
        refine wpList_bsliceG rfl 27 1 _ rfl #[(0, .int .i64 x)] ?_ 3 [.int .i64 x] (fun w => bs_i1 x w) ?_
        · simp [Act.eval, Act.put]
        intro q8 w13 hq8 hb8 hbn
        have HM13 := Lib.hid (HM12.out.later hbn); have HB13 := Lib.hid hb8
        clear hq8 hb8 hbn HM12 c8 hwx
        go_wp2_with (at_builtin; refine stop_here ?_)
        refine StopD.go ?_
        obtain ⟨i0, hi, hi0, hi1, hi2⟩ := info_parts Try.infoInt
        have hrow := HM13.out.r1
        rw [HQ.out] at hrow
        have hq8 := HQ8.out
        refine wpList_app _ rfl (.tmp 48) (.tmp 51) 27 rfl w.heap.size 3 i0 (.int .i64 0) 1 8 Try.underlying27 hi hi0 hi1 hi2 rfl (by decide) _ _ _ rfl hrow _ _ _ _ _ rfl (Sl.of_own (HB13.out.own (base := 0) (size := 1) (cap := 1) (n := 1) (Nat.zero_le _) (Nat.le_refl _) (by omega) rfl rfl)) (by intro u hu; simp at hu; subst hu; rfl) (by unfold maxLen; omega) (by omega) HM13.out.hb.size ?_
        intro v9 w14 hown hg hat
        obtain ⟨P9, c9, h9⟩ := own_form hown
        subst h9
        have HL14 := Lib.hid (HM13.out.lk.grown hg (Ne.symm (own_bk_ne hrow HM13.out.lk (by decide))))
        have HOW := Lib.hid hown; have HGR := Lib.hid hg
        clear hown hg hat hi hi0 hi1 hi2 hrow HB13
        go_wp2_with (with_reducible refine stop_store 27 _ _ rfl ?_)
        refine StopD.go ?_
        refine wpList_store_part rfl 27 _ _ rfl g7 8 (.slice P9 (q + 1) c9) [.slice P9 (q + 1) c9] rfl rfl rfl 58 (dl hd) [.slice P q pc] [.slice none 0 0] (by have := HL14.out; simpa [pfC] using this) (by simp [dl_len, HHO.out.len]) rfl (by kernel_rfl) (by intro y hy; simp at hy; subst hy; rfl) ?_
        intro w15 hp
        have HM15 := Lib.hid (HM13.out.app1 (x := x) (v' := .slice P9 (q + 1) c9) (by rw [HQ.out]; exact HOW.out) HGR.out (by simpa [pfC] using hp))
        clear hp HOW HGR HL14 HM13
        have hj8 : (j : Int) < 8 := by have := HMM.out; omega
        have HLT := Lib.hid hlt
        have HK1 : Hid (itM payM s3 (j + 1) = (s', kj ++ [x])) := by
          show _ = _
          rw [itM, HRK.out]
          show ((payM sj).1, kj ++ [(payM sj).2]) = _
          rw [payM, HRD.out]
        clear hw3 HRK HRD HXG
        go_wp2_with fail
        go_roundw
        case rel =>
          refine ⟨j + 1, P9, c9, HLT.out, by go_num, ?_⟩
          rw [HK1.out]
          show Hid (RqS w _ z g4 g7 s' hd (.slice P9 (kj ++ [x]).length c9) (.slice none 0 0) (kj ++ [x]) [])
          rw [show (kj ++ [x]).length = q + 1 by rw [List.length_append, HQ.out]; rfl]
          exact HM15
        case measure => have := HLT.out; simp [intOf] <;> omega
      · have hji : ¬ ((j : Int) < m) := by omega
        have hjm : j = m := by omega
        subst hjm
        have HD4 : Hid (D = decQ4 hd kj sj) := by
          show _ = _
          rw [HD3.out, HRK.out]
        have HZS : Hid ((Value.slice P q pc) = .slice P kj.length pc) := by show _ = _; rw [HQ.out]
        clear HD3 HRK HMM hlt
        go_upto_region 13 with fail
        clear hw3 hji
        obtain ⟨A4, n4, c4, k4, hk4, hr4⟩ := HMr.out.rv
        obtain ⟨z0, z1, z2⟩ := rv_cells hk4
        obtain ⟨⟨s5, v5⟩, hR⟩ : ∃ R, numR sj 8 = R := ⟨_, rfl⟩
        have HR21 := Lib.hid hR
        have hnn := rRead_any wr w.heap.size HMr.out.hb.size _ sj hr4 8
        have hrg := lnum_rng hr4.ok (most := 8) (by decide)
        rw [hR] at hnn hrg
        have HN := Lib.hid hnn; have HG21 := Lib.hid hrg
        clear hk4 hr4 hnn hR hrg
        go_wp2_with fail
        clear z0 z1 z2
        refine HN.out.mono ?_
        rintro e wx ⟨v, rfl, hrv, hbn⟩
        obtain ⟨A5, n5, c5, k5, hv5⟩ := hrv.form
        subst hv5
        have HMx := Lib.hid (HMr.out.later hbn); have HRV := Lib.hid hrv
        clear hrv hbn HMr HN
        go_wp2_with (with_reducible refine stop_store 117 _ _ rfl ?_)
        refine StopD.go ?_
        obtain ⟨A6, n6, c6, k6, hk6, _⟩ := HMx.out.rv
        refine wpList_store_part rfl 117 _ _ rfl g4 0 (.agg (rvC A5 n5 c5 k5 (s5).err).toArray) (rvC A5 n5 c5 k5 (s5).err) rfl rfl rfl 117 [] (rvC A6 n6 c6 k6 (sj).err) [] (by simpa using hk6) rfl rfl rv_size (rv_one _ _ _ _ _) ?_
        intro w21 hp
        have HM21 := Lib.hid (HMx.out.putR (s' := s5) HRV.out (by simpa using hp))
        clear hp hk6 HMx HRV
        obtain ⟨m2, hm⟩ : ∃ m : Nat, v5 = m := ⟨v5.toNat, by have := HG21.out; omega⟩
        subst hm
        have HMM : Hid (m2 ≤ 8) := by have := HG21.out; show m2 ≤ 8; omega
        have hw3 : IntKind.i64.wrap (m2 : Int) = m2 := IntWalk.i64_in _ (by have := HMM.out; omega)
        have HD5 : Hid (D = decQ5 hd kj (itM sigM s5 m2).2 (itM sigM s5 m2).1) := by
          show _ = _
          rw [HD4.out, decQ4, HR21.out]
          show decQ5 hd kj (itM sigM s5 ((m2 : Nat) : Int).toNat).2 (itM sigM s5 ((m2 : Nat) : Int).toNat).1 = _
          rw [Int.toNat_natCast]
        clear HD4 HR21 HG21
        go_wp2_with fail
        clear hw3
        go_loopw [12, 13, 14] (fun iv _ _ wr => ∃ (i : Nat) (R : Option Addr) (d : Nat) (ps : List Pc), i ≤ m2 ∧ iv = .int .i64 i ∧ Hid (ps.map Pc.bs = (itM sigM s5 i).2) ∧ Hid (RqS w wr z g4 g7 (itM sigM s5 i).1 hd (.slice P q pc) (.slice R ps.length d) kj ps)) (fun iv _ _ _ => m2 - (intOf iv).toNat)
        case atStart => exact ⟨0, none, 0, [], Nat.zero_le _, rfl, rfl, HM21⟩
        case round =>
          clear HM21
          obtain ⟨i, R, d, ps, hi, rfl, HPS, HMr⟩ := hrel
          have hw3 : IntKind.i64.wrap (m2 : Int) = m2 := IntWalk.i64_in _ (by have := HMM.out; omega)
          have hkl := itM_len (f := sigM) (s := s5) i
          obtain ⟨⟨sj, Lj⟩, hrk⟩ : ∃ R, itM sigM s5 i = R := ⟨_, rfl⟩
          have HRK := Lib.hid hrk
          rw [hrk] at HMr hkl HPS
          have HMr : Hid (RqS w wr z g4 g7 sj hd (.slice P q pc) (.slice R ps.length d) kj ps) := HMr
          have HPS : Hid (ps.map Pc.bs = Lj) := HPS
          obtain ⟨y, hy⟩ : ∃ y, ps.length = y := ⟨_, rfl⟩
          have HY := Lib.hid hy
          have HY8 : Hid (y ≤ 8) := by have := HMM.out; have h1 : Lj.length = i := hkl; have h2 : Lj.length = y := by rw [← HPS.out, List.length_map, hy]
                                       show y ≤ 8; omega
          rw [hy] at HMr
          clear hrk hkl hy
          by_cases hlt : i < m2
          · have hji : (i : Int) < m2 := by omega
            have hj0 : (0 : Int) ≤ i := by omega
            obtain ⟨A4, n4, c4, k4, hk4, hr4⟩ := HMr.out.rv
            obtain ⟨z0, z1, z2⟩ := rv_cells hk4
            obtain ⟨⟨s', x⟩, hR⟩ : ∃ R, someR sj 4096 = R := ⟨_, rfl⟩
            have HRD := Lib.hid hR
            have hnn := rSome_any wr w.heap.size HMr.out.hb.size _ sj hr4 4096 (by decide) (by decide)
            rw [hR] at hnn
            have HN := Lib.hid hnn
            clear hk4 hr4 hnn hR
            go_wp2_with fail
            clear z0 z1 z2
            refine HN.out.mono ?_
            rintro e wa ⟨v, bv, rfl, hrv, hob, hbn⟩
            obtain ⟨A5, n5, c5, k5, hv5⟩ := hrv.form
            subst hv5
            obtain ⟨A12, c12, h9⟩ := own_form hob
            subst h9
            have HOa := Lib.hid (own_base hob HMr.out.hb.size)
            clear hob
            have HMa := Lib.hid (HMr.out.later hbn); have HRVa := Lib.hid hrv
            clear hrv hbn HMr HN
            go_wp2_with (with_reducible refine stop_store 117 _ _ rfl ?_)
            refine StopD.go ?_
            obtain ⟨g11, hg11⟩ : ∃ q, wa.heap.size = q := ⟨_, rfl⟩
            obtain ⟨wb, hwb⟩ : ∃ w', wa.alloc (.cells #[.slice none 0 0, .int .i64 0, .int .i64 0] 117) = w' := ⟨_, rfl⟩
            have hbn : Below wa.heap.size wa wb := hwb ▸ below_new wa _
            have HRb : Hid (Bk wb g11 117 zRv) := by show Bk _ _ _ _; rw [← hwb]; exact Bk.at_ wa _ _ hg11 rfl
            have HMb := Lib.hid (HMa.out.later hbn); have HRVb := Lib.hid (HRVa.out.below (hbn.mono HMa.out.hb.size))
            have HOb := Lib.hid (own_keep HOa.out hbn); clear HOa
            have HG11 : Hid (g7 < g11) := by have := HMa.out.lk.lt; show g7 < g11; omega
            rw [hg11, hwb]
            clear hbn hg11 hwb HMa HRVa
            refine wpList_store_part rfl 117 _ _ rfl g11 0 (.agg (rvC A5 n5 c5 k5 s'.err).toArray) (rvC A5 n5 c5 k5 s'.err) rfl rfl rfl 117 [] zRv [] (by simpa using HRb.out) rfl rfl rv_size (rv_one _ _ _ _ _) ?_
            intro w10 hp
            have hg := HG11.out; have hz0 := HMb.out.z0; have hzg := HMb.out.zg; have hgg := HMb.out.gg
            have HR10 : Hid (Bk w10 g11 117 (rvC A5 n5 c5 k5 s'.err)) := by show Bk _ _ _ _; have := hp.bk; simpa using this
            have HM10 := Lib.hid (HMb.out.other7 hp.only (by omega) HRb.out (by decide) (by decide) (by decide))
            have HRV10 := Lib.hid (HRVb.out.below (HMb.out.toRqM.bel hp.only (by omega)))
            have HO10 := Lib.hid (own_only HOb.out hp.only (own_bk_ne HOb.out HRb.out (by decide))); clear HOb
            clear hp HRb HMb HRVb hg hz0 hzg hgg
            obtain ⟨z0, z1, z2⟩ := rv_cells HR10.out
            go_wp2_with (with_reducible refine stop_store 117 _ _ rfl ?_)
            clear z0 z1 z2
            refine StopD.go ?_
            obtain ⟨A6, n6, c6, k6, hk6, _⟩ := HM10.out.rv
            refine wpList_store_part rfl 117 _ _ rfl g4 0 (.agg (rvC A5 n5 c5 k5 s'.err).toArray) (rvC A5 n5 c5 k5 s'.err) rfl rfl rfl 117 [] (rvC A6 n6 c6 k6 sj.err) [] (by simpa using hk6) rfl rfl rv_size (rv_one _ _ _ _ _) ?_
            intro w12 hp
            have HM12 := Lib.hid (HM10.out.putR (s' := s') HRV10.out (by simpa using hp))
            have HO12 := Lib.hid (own_only HO10.out hp.only (own_bk_ne HO10.out hk6 (by decide))); clear HO10
            clear hp hk6 HM10 HR10 HRV10
            have c9 := (pf_mem HHO.out HM12.out.lk).c9
            go_wp2_with (with_reducible refine stop_bs 37 _ _ rfl ?_)
            refine StopD.go ?_
            refine wpList_bsliceG rfl 37 1 _ rfl #[(0, .slice A12 x.length c12)] ?_ 56 [Value.slice A12 x.length c12] (fun w => bs_pp1 A12 x.length c12 w) ?_
            · simp [Act.eval, Act.put]
            intro q8 w13 hq8 hb8 hbn
            have HM13 := Lib.hid (HM12.out.later hbn); have HB13 := Lib.hid hb8; have HO13 := Lib.hid (own_keep HO12.out hbn)
            clear hq8 hb8 hbn HM12 HO12 c9
            go_wp2_with (at_builtin; refine stop_here ?_)
            refine StopD.go ?_
            obtain ⟨i0, hi0', hi0, hi1, hi2⟩ := info_parts Try.infoSlB
            have hrow := HM13.out.r2
            rw [HY.out] at hrow
            have hy8 := HY8.out
            refine wpList_app _ rfl (.tmp 72) (.tmp 74) 37 rfl w.heap.size 56 i0 (.slice none 0 0) 1 24 Try.underlying37 hi0' hi0 hi1 hi2 rfl (by decide) _ _ _ rfl hrow _ _ _ _ _ rfl (Sl.of_own (HB13.out.own (base := 0) (size := 1) (cap := 1) (n := 1) (Nat.zero_le _) (Nat.le_refl _) (by omega) rfl rfl)) (by intro u hu; simp at hu; subst hu; rfl) (by unfold maxLen; omega) (by omega) HM13.out.hb.size ?_
            intro v9 w14 hown hg hat
            obtain ⟨P9, c9, h9⟩ := own_form hown
            subst h9
            have HL14 := Lib.hid (HM13.out.lk.grown hg (Ne.symm (own_bk_ne hrow HM13.out.lk (by decide))))
            have HOW := Lib.hid hown; have HGR := Lib.hid hg
            clear hown hg hat hi0' hi0 hi1 hi2 hrow HB13
            go_wp2_with (with_reducible refine stop_store 37 _ _ rfl ?_)
            refine StopD.go ?_
            refine wpList_store_part rfl 37 _ _ rfl g7 9 (.slice P9 (y + 1) c9) [.slice P9 (y + 1) c9] rfl rfl rfl 58 (dl hd ++ [.slice P q pc]) [.slice R y d] [] (by have := HL14.out; simpa [pfC] using this) (by simp [dl_len, HHO.out.len]) rfl (by kernel_rfl) (by intro y hy; simp at hy; subst hy; rfl) ?_
            intro w15 hp
            have HM15 := Lib.hid (HM13.out.app2 (p := ⟨A12, x.length, c12, x⟩) (v' := .slice P9 (y + 1) c9) HO13.out (by rw [HY.out]; exact HOW.out) HGR.out (by simpa [pfC] using hp))
            clear hp HOW HGR HL14 HM13 HO13
            have hj8 : (i : Int) < 8 := by have := HMM.out; omega
            have HLT := Lib.hid hlt
            have HK1 : Hid (itM sigM s5 (i + 1) = (s', Lj ++ [x])) := by
              show _ = _
              rw [itM, HRK.out]
              show ((sigM sj).1, Lj ++ [(sigM sj).2]) = _
              rw [sigM, HRD.out]
            clear hw3 HRK HRD
            go_wp2_with fail
            go_roundw
            case rel =>
              refine ⟨i + 1, P9, c9, ps ++ [⟨A12, x.length, c12, x⟩], HLT.out, by go_num, ?_, ?_⟩
              · rw [HK1.out]; show (ps ++ [_]).map Pc.bs = Lj ++ [x]; rw [List.map_append, HPS.out]; rfl
              · rw [HK1.out]
                show Hid (RqS w _ z g4 g7 s' hd (.slice P q pc) (.slice P9 (ps ++ [_]).length c9) kj (ps ++ [_]))
                rw [show (ps ++ [(⟨A12, x.length, c12, x⟩ : Pc)]).length = y + 1 by rw [List.length_append, HY.out]; rfl]
                exact HM15
            case measure => have := HLT.out; simp [intOf] <;> omega
          · have hji : ¬ ((i : Int) < m2) := by omega
            have hjm : i = m2 := by omega
            subst hjm
            have HD6 : Hid (D = decQ5 hd kj Lj sj) := by
              show _ = _
              rw [HD5.out, HRK.out]
            clear HD5 HRK HMM hlt
            obtain ⟨A4, n4, c4, k4, hk4, hr4⟩ := HMr.out.rv
            obtain ⟨z0, z1, z2⟩ := rv_cells hk4
            have hnn := rEnd_any wr w.heap.size _ sj hr4
            obtain ⟨x, hx⟩ : ∃ x, endR sj = x := ⟨_, rfl⟩
            rw [decQ5, hx] at HD6
            rw [hx] at hnn
            have HN := Lib.hid hnn
            clear hk4 hr4 hnn hx
            go_wp2_with fail
            clear z0 z1 z2 hw3 hji
            refine HN.out.mono ?_
            rintro e w27 ⟨rfl, hbn⟩
            have HM27 := Lib.hid (HMr.out.later hbn)
            clear hbn HMr HN
            by_cases hx0 : x = 0
            · subst hx0
              have HDE : Hid (D = ⟨hd, kj, Lj, 0⟩) := by show _ = _; rw [HD6.out, if_pos rfl]
              have HSL := Lib.hid (rpf_sz HHO.out (.slice P q pc) (.slice R y d))
              clear HD6
              go_wp2_with (first
                | (with_reducible refine wpList_load_bk rfl 58 _ rfl g7 rfl (pfC hd (.slice P q pc) (.slice R y d)) 58 HM27.out.lk _ Try.underlying58 rfl HSL.out ?_)
                | (with_reducible refine stop_store 58 _ _ rfl ?_))
              refine StopD.go ?_
              refine wpList_store_part rfl 58 _ _ rfl z 0 (.agg (pfC hd (.slice P q pc) (.slice R y d)).toArray) (pfC hd (.slice P q pc) (.slice R y d)) rfl rfl rfl 58 [] zPf [] (by simpa using HM27.out.rs) rfl (by rw [pfC_len HHO.out]; rfl) HSL.out (pf_one _ _ _ _ _ _ _) ?_
              intro wz hp
              have HRz : Hid (Bk wz z 58 (pfC hd (.slice P q pc) (.slice R y d))) := by show Bk _ _ _ _; have := hp.bk; simpa using this
              have HBz := Lib.hid (below_only HM27.out.hb hp.only HM27.out.hb.size (Nat.le_of_eq HZ.out))
              have HOz := Lib.hid (own_only HM27.out.r1 hp.only (own_bk_ne HM27.out.r1 HM27.out.rs (by decide)))
              have HQz := Lib.hid (own_only HM27.out.r2 hp.only (own_bk_ne HM27.out.r2 HM27.out.rs (by decide)))
              have HPz : Hid (PcsOwn wz w.heap.size ps) := fun p hp' => own_only (HM27.out.po p hp') hp.only (own_bk_ne (HM27.out.po p hp') HM27.out.rs (by decide))
              clear hp
              go_wp2_with fail
              refine bodyPost_ret (rdecp_ret (pfC_len HHO.out _ _) HRz.out _ rfl rfl) rfl ?_
              rw [HDE.out]
              refine ⟨P, pc, R, d, ps, ?_, ?_, ?_, HPz.out, HPS.out, HHO.out, HBz.out⟩
              · show _ = Ending.returned (.tuple #[.agg (pfC hd (.slice P kj.length pc) (.slice R ps.length d)).toArray, .int .i64 0])
                rw [HQ.out, HY.out]
              · have := HOz.out; rw [HQ.out] at this; show wz.ownsRow w.heap.size 3 1 (.slice P kj.length pc) kj.length (kj.map (.int .i64)); rw [HQ.out]; exact this
              · have := HQz.out; rw [HY.out] at this ⊢; exact this
            · have HDE : Hid (D = ⟨zeroD, [], [], x⟩) := by show _ = _; rw [HD6.out, if_neg hx0]
              have hxn : (x != 0) = true := by simpa using hx0
              clear HD6 hx0
              have hzl := rz_pf
              go_wp2_with (first
                | ((with_reducible refine wpList_build rfl 58 _ rfl #[] ?_ _ (hzl _) ?_); focus (simp [Act.eval, Act.put]; done))
                | (with_reducible refine stop_store 58 _ _ rfl ?_))
              clear hzl
              refine StopD.go ?_
              refine wpList_store_part rfl 58 _ _ rfl z 0 (.agg zPf.toArray) zPf rfl rfl rfl 58 [] zPf [] (by simpa using HM27.out.rs) rfl rfl rzpf_size (pf_one _ _ _ _ _ _ _) ?_
              intro wz hp
              have HRz : Hid (Bk wz z 58 zPf) := by show Bk _ _ _ _; have := hp.bk; simpa using this
              have HBz := Lib.hid (below_only HM27.out.hb hp.only (HM27.out.hb).size (Nat.le_of_eq HZ.out))
              clear hp
              go_wp2_with fail
              refine bodyPost_ret (rdecp_ret rfl HRz.out _ rfl rfl) rfl ?_
              rw [HDE.out]
              exact ⟨none, 0, none, 0, [], rfl, World.ownsRow_nil _ _ _ _, World.ownsRow_nil _ _ _ _, fun p hp => by simp at hp, rfl, zero_ok, HBz.out⟩
  · have HDE : Hid (D = ⟨zeroD, [], [], x2⟩) := by show _ = _; rw [HD1.out, if_neg hx]
    have hxn : (x2 != 0) = true := by simpa using hx
    clear HD1 hx
    have hzl := rz_pf
    go_wp2_with (first
      | ((with_reducible refine wpList_build rfl 58 _ rfl #[] ?_ _ (hzl _) ?_); focus (simp [Act.eval, Act.put]; done))
      | (with_reducible refine stop_store 58 _ _ rfl ?_))
    clear hzl
    refine StopD.go ?_
    refine wpList_store_part rfl 58 _ _ rfl z 0 (.agg zPf.toArray) zPf rfl rfl rfl 58 [] zPf [] (by simpa using HM7.out.rs) rfl rfl rzpf_size (pf_one _ _ _ _ _ _ _) ?_
    intro wz hp
    have HRz : Hid (Bk wz z 58 zPf) := by show Bk _ _ _ _; have := hp.bk; simpa using this
    have HBz := Lib.hid (below_only HM7.out.hb hp.only (HM7.out.hb).size (Nat.le_of_eq HZ.out))
    clear hp
    go_wp2_with fail
    refine bodyPost_ret (rdecp_ret rfl HRz.out _ rfl rfl) rfl ?_
    rw [HDE.out]
    exact ⟨none, 0, none, 0, [], rfl, World.ownsRow_nil _ _ _ _, World.ownsRow_nil _ _ _ _, fun p hp => by simp at hp, rfl, zero_ok, HBz.out⟩
end Go.Proofs.Ytbclfjdamklbpaa

/-! Proofs and their bytes: the plain law. -/
namespace Go.Proofs.Ytbclfjdamklbpaa
set_option linter.unusedSimpArgs false
set_option linter.unusedVariables false
open Go.RowKit Go.Maps

theorem itM_bad {α : Type} {g : Rd → Rd × α} (hb : ∀ r : Rd, r.err ≠ 0 → (g r).1 = r) {r : Rd} (h : r.err ≠ 0) : ∀ n, (itM g r n).1 = r
  | 0 => rfl
  | n + 1 => by
    show (g (itM g r n).1).1 = r
    rw [itM_bad hb h n, hb r h]
theorem it_sync {α : Type} {f : Rd × Int → (Rd × Int) × α} {g : Rd → Rd × α} (hf : ∀ r : Rd, f (r, r.err) = (((g r).1, (g r).1.err), (g r).2)) (hb : ∀ r : Rd, r.err ≠ 0 → (g r).1 = r) (r : Rd) :
    ∀ n, (itN f (r, r.err) n).1 = ((itM g r n).1, (itM g r n).1.err) ∧ ((itM g r n).1.err = 0 → (itN f (r, r.err) n).2 = (itM g r n).2)
  | 0 => ⟨rfl, fun _ => rfl⟩
  | n + 1 => by
    obtain ⟨i1, i2⟩ := it_sync hf hb r n
    rw [itN, itM]
    by_cases h : (itM g r n).1.err = 0
    · rw [if_pos (by rw [i1]; exact h), i1, hf, i2 h]
      exact ⟨rfl, fun _ => rfl⟩
    · rw [if_neg (by rw [i1]; exact h), i1, hb _ h]
      exact ⟨rfl, fun h' => absurd h' h⟩
theorem pay_sync (r : Rd) : payF (r, r.err) = (((payM r).1, (payM r).1.err), (payM r).2) := srcNum_sync (s := (r, r.err)) rfl _
theorem sig_sync (r : Rd) : sigF (r, r.err) = (((sigM r).1, (sigM r).1.err), (sigM r).2) := srcSome_sync (s := (r, r.err)) rfl _
theorem pay_bad {r : Rd} (h : r.err ≠ 0) : (payM r).1 = r := by rw [payM, num_bad h]
theorem sig_bad {r : Rd} (h : r.err ≠ 0) : (sigM r).1 = r := by rw [sigM, some_bad h]
theorem srcEnd_sync (r : Rd) : srcEnd (r, r.err) = endR r := by
  unfold srcEnd endR
  split <;> rfl
theorem p5_sync {k zs zs' : List Int} {L L' : List (List Int)} {r : Rd} (h : r.err = 0 → zs = zs' ∧ L = L') : decP5 k zs L (r, r.err) = decQ5 k zs' L' r := by
  unfold decP5 decQ5
  rw [srcEnd_sync]
  by_cases he : endR r = 0
  · obtain ⟨rfl, rfl⟩ := h (endR_zero he).1
    rfl
  · rw [if_neg he, if_neg he]
theorem p4_sync {k zs zs' : List Int} {r : Rd} (h : r.err = 0 → zs = zs') : decP4 k zs (r, r.err) = decQ4 k zs' r := by
  unfold decP4 decQ4
  rw [srcNum_sync (s := (r, r.err)) rfl]
  simp only
  obtain ⟨i1, i2⟩ := it_sync (f := sigF) (g := sigM) sig_sync (fun r h => sig_bad h) (numR r 8).1 (numR r 8).2.toNat
  rw [i1]
  refine p5_sync (fun he => ⟨h ?_, i2 he⟩)
  rcases Decidable.em (r.err = 0) with h0 | h0
  · exact h0
  · rw [num_bad h0] at he
    simp only at he
    rw [itM_bad (g := sigM) (fun r h => sig_bad h) h0] at he
    exact he
theorem p3_sync {k : List Int} {r : Rd} : decP3 k (r, r.err) = decQ3 k r := by
  unfold decP3 decQ3
  rw [srcNum_sync (s := (r, r.err)) rfl]
  simp only
  obtain ⟨i1, i2⟩ := it_sync (f := payF) (g := payM) pay_sync (fun r h => pay_bad h) (numR r 8).1 (numR r 8).2.toNat
  rw [i1]
  exact p4_sync i2
theorem p3_bad {k : List Int} {s : Rd × Int} (h : s.2 ≠ 0) : decP3 k s = ⟨zeroD, [], [], s.2⟩ := by
  have e : srcNum s 8 = (s, 0) := srcNum_bad h 8
  unfold decP3
  rw [e]
  show decP4 k [] s = _
  unfold decP4
  rw [e]
  show decP5 k [] [] s = _
  unfold decP5
  rw [show srcEnd s = s.2 from if_neg h, if_neg h]
theorem pf_same (bs : List Int) : decPf bs = decQ bs := by
  unfold decPf decQ
  have hd := srcDg_sync (s := (⟨bs, 0⟩, 0)) rfl
  rw [hd.1, hd.2.1]
  simp only at hd ⊢
  by_cases hx : (docDg ⟨bs, 0⟩).2 = 0
  · rw [if_pos hx, hx]
    have hs := (hd.2.2 hx).1
    have := p3_sync (k := (docDg ⟨bs, 0⟩).1.2) (r := (docDg ⟨bs, 0⟩).1.1)
    rw [hs] at this
    exact this
  · rw [if_neg hx]
    exact p3_bad hx
/-! ### there and back -/
theorem itM_feed {α β : Type} {g : Rd → Rd × α} {enc : β → List Int} {val : β → α} (L : List β) (h : ∀ x ∈ L, ∀ rest, g ⟨enc x ++ rest, 0⟩ = (⟨rest, 0⟩, val x)) (rest : List Int) : ∀ k, k ≤ L.length → itM g ⟨L.flatMap enc ++ rest, 0⟩ k = (⟨(L.drop k).flatMap enc ++ rest, 0⟩, (L.take k).map val)
  | 0, _ => by simp [itM]
  | k + 1, hk => by
    have ih := itM_feed L h rest k (by omega)
    have hlt : k < L.length := by omega
    have hx : L[k]? = some L[k] := List.getElem?_eq_getElem hlt
    rw [itM, ih]
    simp only
    rw [List.drop_eq_getElem_cons hlt, List.flatMap_cons, List.append_assoc, h _ (List.getElem_mem hlt), take_snoc hx, List.map_append]
    rfl
theorem pay_feed {n : Nat} (h : n ≤ 1125899906842624) (rest : List Int) : payM ⟨numB n ++ rest, 0⟩ = (⟨rest, 0⟩, (n : Int)) := lnum_feed (by omega) (by omega) rest
theorem sig_feed {x : List Int} (h : x.length ≤ 4096) (rest : List Int) : sigM ⟨lstB x ++ rest, 0⟩ = (⟨rest, 0⟩, x) := by
  rw [lstB, List.append_assoc]
  exact lsome_feed (by omega) (by omega) rest
theorem dg_feed {k : List Int} (hk : k.length = 8) (rest : List Int) : docDg ⟨lstB k ++ rest, 0⟩ = ((⟨rest, 0⟩, k), 0) := by
  have := lsome_feed (xs := k) (m := 8) (by omega) (by omega) rest
  unfold docDg
  rw [lstB, List.append_assoc, this]
  simp only [if_true, hk]
theorem zs_nat {zs : List Int} (h : ∀ z ∈ zs, payB z = true) : (zs.map Int.toNat).map (fun n : Nat => (n : Int)) = zs := by
  rw [List.map_map]
  conv => rhs; rw [← List.map_id zs]
  refine List.map_congr_left fun z hz => ?_
  have := (pay_facts (h z hz)).1
  show ((z.toNat : Nat) : Int) = z
  omega
theorem pf_enc {k zs : List Int} {L : List (List Int)} (hk : DgOk k) (hok : pfOk zs L = true) : decQ (pfB k zs L) = ⟨k, zs, L, 0⟩ := by
  obtain ⟨h1, h2, h3, h4⟩ := ok_of hok
  have hb : pfB k zs L = lstB k ++ (numB zs.length ++ ((zs.map Int.toNat).flatMap numB ++ (numB L.length ++ (L.flatMap lstB ++ [])))) := by
    simp [pfB, pfHd, nsB, ksB, List.append_assoc]
  unfold decQ
  rw [hb, dg_feed hk.len]
  simp only [if_true]
  unfold decQ3
  rw [lnum_feed (m := 8) (by omega) (by omega)]
  simp only [Int.toNat_natCast]
  have e1 := itM_feed (g := payM) (enc := numB) (val := fun n : Nat => (n : Int)) (zs.map Int.toNat) (fun x hx rest => by
    obtain ⟨z, hz, rfl⟩ := List.mem_map.1 hx
    have := pay_facts (h3 z hz)
    exact pay_feed (by omega) rest) (numB L.length ++ (L.flatMap lstB ++ [])) zs.length (by rw [List.length_map]; exact Nat.le_refl _)
  rw [List.drop_of_length_le (by rw [List.length_map]; exact Nat.le_refl _), List.take_of_length_le (by rw [List.length_map]; exact Nat.le_refl _), zs_nat h3] at e1
  rw [e1]
  simp only [List.flatMap_nil, List.nil_append]
  unfold decQ4
  rw [lnum_feed (m := 8) (by omega) (by omega)]
  simp only [Int.toNat_natCast]
  have e2 := itM_feed (g := sigM) (enc := lstB) (val := fun x : List Int => x) L (fun x hx rest => sig_feed (by have := h4 x hx; unfold sgnB at this; simpa using this) rest) [] L.length (Nat.le_refl _)
  rw [List.drop_of_length_le (Nat.le_refl _), List.take_of_length_le (Nat.le_refl _), List.map_id'] at e2
  rw [e2]
  simp only [List.flatMap_nil, List.nil_append]
  unfold decQ5
  rw [if_pos (by rfl)]
theorem itM_ok {s : Rd} (h : ByOk s.rest) : ∀ n, ByOk (itM payM s n).1.rest
  | 0 => h
  | n + 1 => lnum_byok (itM_ok h n) _
theorem sigs_len {s : Rd} : ∀ n, ∀ x ∈ (itM sigM s n).2, x.length ≤ 4096
  | 0, x, hx => by simp [itM] at hx
  | n + 1, x, hx => by
    rw [itM] at hx
    rcases List.mem_append.1 hx with hx | hx
    · exact sigs_len n x hx
    · rw [List.mem_singleton] at hx; subst hx; exact lsome_len (most := 4096)
def PfSmall (o : PfJ) : Prop := o.zs.length ≤ 8 ∧ o.L.length ≤ 8 ∧ ∀ x ∈ o.L, x.length ≤ 4096
theorem fail_small (k : List Int) (e : Int) : PfSmall ⟨k, [], [], e⟩ := ⟨Nat.zero_le _, Nat.zero_le _, fun x hx => by simp at hx⟩
theorem pf_small {bs : List Int} (hb : ByOk bs) : PfSmall (decQ bs) := by
  unfold decQ
  split
  · unfold decQ3
    have hr : ByOk (docDg ⟨bs, 0⟩).1.1.rest := by
      unfold docDg
      have := lsome_byok (s := ⟨bs, 0⟩) hb 8
      split
      · split <;> exact this
      · exact this
    have g1 := lnum_rng hr (most := 8) (by decide)
    obtain ⟨⟨r3, v3⟩, h3⟩ : ∃ R, numR (docDg ⟨bs, 0⟩).1.1 8 = R := ⟨_, rfl⟩
    have hr3 : ByOk r3.rest := by have := lnum_byok hr 8; rw [h3] at this; exact this
    rw [h3] at g1 ⊢
    simp only at g1 ⊢
    unfold decQ4
    have g2 := lnum_rng (itM_ok hr3 v3.toNat) (most := 8) (by decide)
    obtain ⟨⟨r5, v5⟩, h5⟩ : ∃ R, numR (itM payM r3 v3.toNat).1 8 = R := ⟨_, rfl⟩
    rw [h5] at g2 ⊢
    simp only at g2 ⊢
    unfold decQ5
    split
    · refine ⟨?_, ?_, sigs_len _⟩
      · show (itM payM r3 v3.toNat).2.length ≤ 8
        rw [itM_len]; omega
      · show (itM sigM r5 v5.toNat).2.length ≤ 8
        rw [itM_len]; omega
    · exact fail_small _ _
  · exact fail_small _ _
end Go.Proofs.Ytbclfjdamklbpaa
