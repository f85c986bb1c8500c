/- How a lock is read: the source's rounds. -/
import Derived.Test.YtbclfjdamklbpaaLT
import Derived.Test.YtbclfjdamklbpaaLD
import Derived.Test.YtbclfjdamklbpaaRL
namespace Go.Proofs.Ytbclfjdamklbpaa
set_option linter.unusedSimpArgs false
set_option linter.unusedVariables false
open Go.RowKit Go.Maps

def RetEa (many : Nat) (s : Nat → Rd × Int) (Inv : Nat → World → Prop) (e : Ending) (w' : World) : Prop := e = .returned (.tuple #[]) ∧ ∃ k, k ≤ many ∧ Inv k w' ∧ (k = many ∨ (s k).2 ≠ 0)
set_option maxRecDepth 20000 in
set_option maxHeartbeats 2000000 in
/-- So many rounds of whatever is handed in, as long as nothing is wrong. -/
theorem each_any (i : Nat) (cap : Array Value) (hcf : ∀ w, (callFunc i cap).run Try.prog w = .ok (.enter i cap) w) (w : World) (gs g : Nat) (many : Nat) (hm : many ≤ 1000) (s : Nat → Rd × Int) (Inv : Nat → World → Prop) (h0 : Inv 0 w) (hS : ∀ k w', Inv k w' → SrcAt w' gs g (s k))
    (hC : ∀ k w', k < many → (s k).2 = 0 → Inv k w' → Calls Try.prog i cap w' (fun e w'' => e = .returned (.tuple #[]) ∧ Inv (k + 1) w'')) :
    Calls Try.prog 54 #[.pointer (some ⟨gs, 0, none⟩), .int .i64 many, .func (.func i) #[] cap] w (RetEa many s Inv) := by
  have HI0 := Lib.hid h0; have HSS := Lib.hid hS; have HCC := Lib.hid hC; have HMM := Lib.hid hm
  clear h0 hS hC hm
  go_enter Try.func54, Try.ntmps54
  go_wp2_with fail
  go_loopw [6] (fun iv wr => ∃ k : Nat, k ≤ many ∧ iv = .int .i64 k ∧ Hid (Inv k wr)) (fun iv _ => many - (intOf iv).toNat)
  case atStart => exact ⟨0, Nat.zero_le _, rfl, HI0⟩
  case round =>
    clear HI0
    obtain ⟨k, hk, rfl, HI⟩ := hrel
    by_cases hlt : k < many
    · have hki : (k : Int) < many := by omega
      have hk0 : (0 : Int) ≤ k := by omega
      have hbm := HMM.out
      have hsr := HSS.out k wr HI.out
      obtain ⟨c0, c1⟩ := src_cells hsr
      by_cases he : (s k).2 = 0
      · rw [he] at c1
        have HC' := Lib.hid (HCC.out k wr hlt he HI.out)
        have hcfw := hcf
        clear hsr
        go_wp2_with fail
        clear c0 c1 hcfw
        refine HC'.out.mono ?_
        rintro e w2 ⟨rfl, hi⟩
        have HI2 := Lib.hid hi
        clear hi HC' HI
        go_wp2_with fail
        go_roundw
        case rel => exact ⟨k + 1, hlt, by go_num, HI2⟩
        case measure => simp [intOf] <;> omega
      · have heb : ((s k).2 == 0) = false := by simpa using he
        have HE := Lib.hid he
        clear hsr he
        go_wp2_with fail
        refine bodyPost_ret (results_none rfl _ _ _) rfl ?_
        exact ⟨rfl, k, hk, HI.out, .inr HE.out⟩
    · have hki : ¬ ((k : Int) < many) := by omega
      obtain rfl : many = k := by omega
      go_wp2_with fail
      refine bodyPost_ret (results_none rfl _ _ _) rfl ?_
      exact ⟨rfl, many, hk, HI.out, .inl rfl⟩
/-- The keys that are read. -/
def keysN (s : Rd × Int) : Nat → (Rd × Int) × List (List Int)
  | 0 => (s, [])
  | i + 1 => if (keysN s i).1.2 = 0 then ((srcDg (keysN s i).1).1, (keysN s i).2 ++ [(srcDg (keysN s i).1).2]) else keysN s i
theorem keysN_stop {s : Rd × Int} {k : Nat} (h : (keysN s k).1.2 ≠ 0) : ∀ j, keysN s (k + j) = keysN s k
  | 0 => rfl
  | j + 1 => by
    have ih := keysN_stop h j
    rw [← Nat.add_assoc, keysN, ih, if_neg h]
/-- What stands while a lock is read. -/
structure DcS (w0 w : World) (z gs g gl : Nat) (s : Rd × Int) (L : LkT) (p : Value) (ks : List (List Int)) : Prop where
  sr : SrcAt w gs g s
  lk : Bk w gl 26 (lkC L p)
  rs : Bk w z 26 zLk'
  ro : w.ownsRow gl 23 8 p ks.length (cellsD ks)
  ko : DsOk ks
  lh : DgOk L.h
  hb : Below w0.heap.size w0 w
  z0 : w0.heap.size ≤ z
  zg : z < g
  gg : gs < gl
section
variable {w0 w wn : World} {z gs g gl : Nat} {s s' : Rd × Int} {L : LkT} {p : Value} {ks : List (List Int)}
theorem DcS.later (h : DcS w0 w z gs g gl s L p ks) (hb : Below w.heap.size w wn) : DcS w0 wn z gs g gl s L p ks :=
  ⟨h.sr.later hb, h.lk.later hb, h.rs.later hb, own_keep h.ro hb, h.ko, h.lh, below_then h.hb hb, h.z0, h.zg, h.gg⟩
theorem SrcAt.ne_g {base size n : Nat} {e : TypeId} {v : Value} {xs : List Value} (h : SrcAt w gs g s) (ho : w.ownsRow base e size v n xs) (h1 : e ≠ 138) (h2 : e ≠ 110) : v.ownBlock ≠ some g ∧ v.ownBlock ≠ some gs := by
  obtain ⟨A, m, c, bs, k, hb, _⟩ := h.rd
  exact ⟨own_bk_ne ho hb h1, own_bk_ne ho h.sb h2⟩
theorem DcS.turn (h : DcS w0 w z gs g gl s L p ks) (ht : Tn w wn g gs) (hs : SrcAt wn gs g s') : DcS w0 wn z gs g gl s' L p ks := by
  have h1 := h.sr.lt; have h2 := h.zg; have h3 := h.gg; have h4 := h.z0
  have h5 := h.sr.ne_g h.ro (by decide) (by decide)
  exact ⟨hs, ht.bk h.lk (by omega) (by omega), ht.bk h.rs (by omega) (by omega), ht.own h.ro h5.1 h5.2, h.ko, h.lh, ht.below h.hb h.hb.size (by omega) (by omega), h.z0, h.zg, h.gg⟩
/-- A number's cell in the lock is set. -/
theorem DcS.put {L' : LkT} (h : DcS w0 w z gs g gl s L p ks) (hp : Put w wn gl 26 (lkC L' p)) (hl : L'.h = L.h) : DcS w0 wn z gs g gl s L' p ks := by
  have h1 := h.sr.lt; have h2 := h.zg; have h3 := h.gg; have h4 := h.z0
  exact ⟨h.sr.only hp.only (by omega) (by omega) (by omega), hp.bk, h.rs.grown hp.only (by intro e; injection e with e; omega), own_only h.ro hp.only (own_bk_ne h.ro h.lk (by decide)), h.ko, by rw [hl]; exact h.lh, below_only h.hb hp.only h.hb.size (by omega), h.z0, h.zg, h.gg⟩
end
/-- A row that grows lets the source be. -/
theorem SrcAt.row {w wn : World} {gs g lo n size : Nat} {s : Rd × Int} {e : TypeId} {v : Value} {xs : List Value} (h : SrcAt w gs g s) (ho : w.ownsRow lo e size v n xs) (hg : w.grownBy wn v.ownBlock) (h1 : e ≠ 138) (h2 : e ≠ 110) (hl : g < lo ∨ ∀ q, v.ownBlock = some q → g ≤ q) : SrcAt wn gs g s := by
  have h3 := h.ne_g ho h1 h2
  cases hq : v.ownBlock with
  | none => rw [hq] at hg; exact h.later ((Below.refl _ _).grown hg (Nat.le_refl _) (fun k hk => by cases hk))
  | some q =>
    rw [hq] at hg h3
    refine h.only hg (fun e => h3.1 (by rw [e])) (fun e => h3.2 (by rw [e])) ?_
    rcases hl with hl | hl
    · have := (ho.lt q hq).1; omega
    · exact hl q hq
def RetDk (w0 : World) (z gs g gl : Nat) (s : Rd × Int) (L : LkT) (ks : List (List Int)) (e : Ending) (w' : World) : Prop :=
  e = .returned (.tuple #[]) ∧ ∃ (P : Option Addr) (c : Nat), DcS w0 w' z gs g gl s L (.slice P ks.length c) ks
set_option maxRecDepth 20000 in
set_option maxHeartbeats 2000000 in
theorem dkey_any (w0 w : World) (z gs g gl : Nat) (s : Rd × Int) (L : LkT) (P : Option Addr) (c : Nat) (ks : List (List Int)) (h : DcS w0 w z gs g gl s L (.slice P ks.length c) ks) (hl : ks.length ≤ 1000) :
    Calls Try.prog 66 #[.pointer (some ⟨gl, 0, none⟩), .pointer (some ⟨gs, 0, none⟩)] w (RetDk w0 z gs g gl (srcDg s).1 L (ks ++ [(srcDg s).2])) := by
  have HD := Lib.hid h
  have HHO : Hid (DgOk L.h) := h.lh
  obtain ⟨R, hR⟩ : ∃ R, srcDg s = R := ⟨_, rfl⟩
  have HRO : Hid (DgOk R.2) := by show DgOk _; rw [← hR]; exact srcDg_ok h.sr.rd.ok
  have HDG := Lib.hid (fun w' (hs : SrcAt w' gs g s) => srcDg_any w' gs g s hs)
  rw [hR] at HDG ⊢
  obtain ⟨m, hm⟩ : ∃ m, ks.length = m := ⟨_, rfl⟩
  have HML := Lib.hid hm
  rw [hm] at HD hl
  clear h hR hm
  go_enter Try.func66, Try.ntmps66
  go_wp2_with fail
  have hbd : Below w.heap.size w w.drew := below_draws w w.heap.size 1
  refine wp_region_L [(6, fun w' => Bk w' gl 26 (lkC L (.slice P m c)))] (by kernel_rfl) ⟨fun _ => HD.out.lk.later hbd, trivial⟩ (fun hHeld => ?_)
  obtain ⟨wa, hwa⟩ : ∃ wa, w.drew = wa := ⟨_, rfl⟩
  rw [hwa] at hbd hHeld ⊢
  have HDa := Lib.hid (HD.out.later hbd)
  clear hwa hbd HD
  refine wpAnyL_take0 (i := 0) (v := ?_) rfl (by kernel_rfl) (by kernel_rfl) (by kernel_rfl) (by rfl) (fun _ _ _ h => h) (Or.inl ⟨by rfl, ?_⟩) hHeld ?_
  rotate_left
  · intro w _
    go_simp
    try with_reducible rfl
  clear hHeld
  intro hHeld
  try simp only [Act.put, List.setIfInBounds_toArray, List.set_cons_zero, List.set_cons_succ, List.getElem_toArray, List.getElem_cons_zero, List.getElem_cons_succ]
  refine wpAnyL_take (i := 1) 0 rfl rfl (by kernel_rfl) (by kernel_rfl) (by kernel_rfl) (by kernel_rfl) (by kernel_rfl) (by rfl) (fun _ _ _ h => h) (v := ?_) (Or.inl ⟨by rfl, ?_⟩) hHeld ?_
  rotate_left
  · intro w hSw
    have hcell := (lk_mem HHO.out hSw).c9
    clear hSw
    go_simp
    try with_reducible rfl
  clear hHeld
  intro hHeld
  try simp only [Act.put, List.setIfInBounds_toArray, List.set_cons_zero, List.set_cons_succ, List.getElem_toArray, List.getElem_cons_zero, List.getElem_cons_succ]
  refine wpAnyL_ready (rs := [2]) (by kernel_rfl) (by simp) ?_
  refine AllReadyL.cons rfl (fun K hK => ?_) AllReadyL.nil
  go_simp
  (go_at_call 53; refine (HDG.out wa HDa.out.sr).mono ?_; rintro e wb ⟨rfl, hs, ht⟩; have HDb := Lib.hid (HDa.out.turn ht hs); clear hs ht HDa HDG)
  refine hK.out _ _ (⟨fun _ => HDb.out.lk, trivial⟩) (fun hHeld => ?_)
  clear hK K
  try simp only [Act.put, List.setIfInBounds_toArray, List.set_cons_zero, List.set_cons_succ, List.getElem_toArray, List.getElem_cons_zero, List.getElem_cons_succ]
  refine wpAnyL_ready (rs := [3]) (by kernel_rfl) (by simp) ?_
  refine AllReadyL.cons rfl (fun K hK => ?_) AllReadyL.nil
  rw [if_pos (by rfl)]
  refine wp_bslice _ 1 _ rfl #[(0, .agg (dl R.2).toArray)] (by simp [Act.eval]) _ _ (bs_d1 HRO.out _) ?_
  obtain ⟨wc, hwc⟩ : ∃ w7, wb.alloc (.cells (dl R.2).toArray 23) = w7 := ⟨_, rfl⟩
  obtain ⟨q7, hq7⟩ : ∃ q, wb.heap.size = q := ⟨_, rfl⟩
  have hbn : Below wb.heap.size wb wc := hwc ▸ below_new wb _
  have HQ7 : Hid (Bk wc q7 23 (dl R.2)) := by show Bk _ _ _ _; rw [← hwc]; exact Bk.at_ wb _ _ hq7 rfl
  rw [hwc, hq7]
  clear hwc hq7
  have HDc := Lib.hid (HDb.out.later hbn)
  clear hbn HDb
  refine hK.out _ _ ⟨fun _ => HDc.out.lk, trivial⟩ (fun hHeld => ?_)
  clear hK K
  try simp only [Act.put, List.setIfInBounds_toArray, List.set_cons_zero, List.set_cons_succ, List.getElem_toArray, List.getElem_cons_zero, List.getElem_cons_succ]
  refine wpAnyL_ready (rs := [4]) (by kernel_rfl) (by simp) ?_
  refine AllReadyL.cons rfl (fun K hK => ?_) AllReadyL.nil
  rw [if_pos (by rfl)]
  obtain ⟨i0, z0', hi, hi0, hi1, hi2, hi3⟩ := dg_parts
  have hrow := HDc.out.ro
  rw [HML.out] at hrow
  refine wp_app _ (.tmp 3) (.tmp 5) 24 rfl gl 23 i0 z0' 8 8 Try.underlying24 hi hi0 hi1 hi2 hi3 (by decide) _ _ _ rfl hrow _ _ _ _ _ rfl (Sl.of_own (HQ7.out.own (base := 0) (size := 8) (cap := 1) (n := 1) (Nat.zero_le _) (Nat.le_refl _) (by omega) (by rw [dl_len, HRO.out.len]) (by rw [List.take_of_length_le (by rw [dl_len, HRO.out.len]; exact Nat.le_refl _)]))) (dl_one' _) (by unfold maxLen; omega) (by omega) (Nat.le_of_lt HDc.out.lk.lt) ?_
  intro v9 wd hown hg hat
  obtain ⟨P9, c9, h9⟩ := own_form hown
  subst h9
  have HX := Lib.hid (HDc.out.sr)
  have HG1 : Hid (z < g ∧ g < gs ∧ gs < gl ∧ w0.heap.size ≤ z) := ⟨HDc.out.zg, HDc.out.sr.lt, HDc.out.gg, HDc.out.z0⟩
  have HLd := Lib.hid (HDc.out.lk.grown hg (Ne.symm (own_bk_ne hrow HDc.out.lk (by decide)))); have HRd := Lib.hid (HDc.out.rs.grown hg (Ne.symm (own_bk_ne hrow HDc.out.rs (by decide))))
  have HBd := Lib.hid (grown_below HDc.out.hb hrow hg (by have := HG1.out; omega) HDc.out.hb.size)
  have HSd : Hid (SrcAt wd gs g R.1) := HDc.out.sr.row hrow hg (by decide) (by decide) (.inl (by have := HG1.out; omega))
  have HOd := Lib.hid hown
  have HKO : Hid (DsOk (ks ++ [R.2])) := by
    intro x hx
    rcases List.mem_append.1 hx with hx | hx
    · exact HDc.out.ko x hx
    · rw [List.mem_singleton] at hx; subst hx; exact HRO.out
  clear hown hg hat hi hi0 hi1 hi2 hi3 hrow HDc HQ7
  refine hK.out _ _ ⟨fun _ => HLd.out, trivial⟩ (fun hHeld => ?_)
  clear hK K
  try simp only [Act.put, List.setIfInBounds_toArray, List.set_cons_zero, List.set_cons_succ, List.getElem_toArray, List.getElem_cons_zero, List.getElem_cons_succ]
  refine wpAnyL_take0 (i := 5) (v := ?_) rfl (by kernel_rfl) (by kernel_rfl) (by kernel_rfl) (by rfl) (fun _ _ _ h => h) (Or.inl ⟨by rfl, ?_⟩) hHeld ?_
  rotate_left
  · intro w _
    go_simp
    try with_reducible rfl
  clear hHeld
  intro hHeld
  try simp only [Act.put, List.setIfInBounds_toArray, List.set_cons_zero, List.set_cons_succ, List.getElem_toArray, List.getElem_cons_zero, List.getElem_cons_succ]
  refine wpAnyL_ready (rs := [6]) (by kernel_rfl) (by simp) ?_
  refine AllReadyL.cons rfl (fun K hK => ?_) AllReadyL.nil
  rw [if_pos (by rfl)]
  refine wp_store_part _ _ _ rfl gl 9 _ ([.slice P9 (m + 1) c9]) rfl rfl rfl _ (.int .i64 L.k :: dl L.h) ([.slice P m c]) ([.int .i64 L.s, .int .i64 L.c, .int .i64 L.u]) (by have := HLd.out; simpa [lkC] using this) (by simp [dl_len, HHO.out.len]) rfl (by kernel_rfl) (by simp [Value.oneCell']) ?_
  intro we hp
  refine hK.out _ _ ⟨fun h => dead h (by kernel_rfl), trivial⟩ (fun hHeld => ?_)
  clear hK K
  try simp only [Act.put, List.setIfInBounds_toArray, List.set_cons_zero, List.set_cons_succ, List.getElem_toArray, List.getElem_cons_zero, List.getElem_cons_succ]
  refine wpAnyL_done (by kernel_rfl) ?_ _
  clear hHeld
  have h1 := HG1.out
  have HLe : Hid (Bk we gl 26 (lkC L (.slice P9 (m + 1) c9))) := by show Bk _ _ _ _; have := hp.bk; simpa [lkC] using this
  have HSe := Lib.hid (HSd.out.only hp.only (by omega) (by omega) (by omega)); have HRe := Lib.hid (HRd.out.grown hp.only (by intro e; injection e with e; omega))
  have HOe := Lib.hid (own_only HOd.out hp.only (own_bk_ne HOd.out HLd.out (by decide)))
  have HBe := Lib.hid (below_only HBd.out hp.only HBd.out.size (by omega))
  clear hp h1 HLd HSd HRd HOd HBd
  go_wp2_with fail
  refine bodyPost_ret (results_none rfl _ _ _) rfl ?_
  have hlen : (ks ++ [R.2]).length = m + 1 := by rw [List.length_append, HML.out]; rfl
  refine ⟨rfl, P9, c9, ?_⟩
  rw [hlen]
  exact ⟨HSe.out, HLe.out, HRe.out, by rw [hlen]; have := HOe.out; rwa [show cellsD (ks ++ [R.2]) = cellsD ks ++ dl R.2 by simp [cellsD, dl]], HKO.out, HHO.out, HBe.out, HG1.out.2.2.2, HG1.out.1, HG1.out.2.2.1⟩
end Go.Proofs.Ytbclfjdamklbpaa
