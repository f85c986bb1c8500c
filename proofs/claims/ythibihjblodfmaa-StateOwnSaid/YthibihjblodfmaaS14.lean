/- Signed states, compared. -/
import Derived.Test.YthibihjblodfmaaS13
namespace Go.Proofs.Ythibihjblodfmaa
open Go.RowKit Go.Maps

theorem eqL_false {x y : List Int} (h : eqL x y = false) : x ≠ y := by simpa [eqL] using h
theorem eqL_true {x y : List Int} (h : eqL x y = true) : x = y := by simpa [eqL] using h
theorem bsP_len (ps : List Pc) : (bsP ps).length = ps.length := by simp [bsP]
theorem bsP_get {ps : List Pc} {k : Nat} {p : Pc} (h : ps[k]? = some p) : (bsP ps)[k]? = some p.bs := by rw [bsP, List.getElem?_map, h]; rfl
theorem take_eq_step {α : Type} {xs ys : List α} {k : Nat} {x y : α} (h : xs.take k = ys.take k) (hx : xs[k]? = some x) (hy : ys[k]? = some y) (e : x = y) : xs.take (k + 1) = ys.take (k + 1) := by rw [take_snoc hx, take_snoc hy, h, e]
theorem take_ne {α : Type} {xs ys : List α} {k : Nat} {x y : α} (hx : xs[k]? = some x) (hy : ys[k]? = some y) (e : x ≠ y) : xs ≠ ys := by rintro rfl; rw [hx] at hy; injection hy with hy; exact e hy
theorem take_all {α : Type} {xs ys : List α} {k : Nat} (h : xs.take k = ys.take k) (hx : xs.length = k) (hy : ys.length = k) : xs = ys := by rwa [List.take_of_length_le (by omega), List.take_of_length_le (by omega)] at h
/-- A piece of a slice of pieces. -/
theorem pc_at {w : World} {B n : Nat} {A : Option Addr} {ps : List Pc} (h : Sl w B 1 A n (ps.map Pc.v)) {k : Nat} (hk : k < n) : ∃ b o p, A = some ⟨b, o, none⟩ ∧ ps[k]? = some p ∧ b < B ∧ w.cell? ⟨b, o + k, none⟩ = some (.slice p.A p.n p.c) := by
  obtain ⟨b, o, rfl, hb, hc⟩ := h.spot (by omega) (by omega)
  have hl := h.length
  obtain ⟨p, hp⟩ : ∃ p, ps[k]? = some p := ⟨ps[k]'(by omega), List.getElem?_eq_getElem _⟩
  exact ⟨b, o, p, rfl, hp, hb, hc k p.v (by rw [List.getElem?_map, hp]; rfl)⟩
set_option maxRecDepth 20000 in
set_option maxHeartbeats 2000000 in
theorem eqFunc_any (w : World) (As Bs : Option Addr) (n m c d : Nat) (ps qs : List Pc) (hs : Sl w w.heap.size 1 As n (ps.map Pc.v)) (hs' : Sl w w.heap.size 1 Bs m (qs.map Pc.v)) (hp : PcsOk w ps) (hq : PcsOk w qs) (hpb : PcsBy ps) (hqb : PcsBy qs) :
    Calls Try.prog 102 #[.slice As n c, .slice Bs m d, .func (.func 81) #[] #[]] w fun e w' => e = .returned (.bool (decide (bsP ps = bsP qs))) ∧ w = w' := by
  have hl := hs.length; have hl' := hs'.length
  have hle := hs.le
  by_cases hnm : n = m
  · subst hnm
    have HS := Lib.hid hs; have HS' := Lib.hid hs'; have HP := Lib.hid hp; have HQ := Lib.hid hq; have HPB := Lib.hid hpb; have HQB := Lib.hid hqb; have HL := Lib.hid hl; have HL' := Lib.hid hl'
    clear hs hs' hp hq hpb hqb hl hl'
    go_enter Try.func102, Try.ntmps102
    go_wp2_with fail
    go_loopw [17] (fun iv wr => ∃ k : Nat, k ≤ n ∧ iv = .int .i64 k ∧ w = wr ∧ Hid ((bsP ps).take k = (bsP qs).take k)) (fun iv _ => n - (intOf iv).toNat)
    case atStart => exact ⟨0, Nat.zero_le _, rfl, rfl, rfl⟩
    case round =>
      obtain ⟨k, hk, rfl, rfl, HT⟩ := hrel
      by_cases hlt : k < n
      · obtain ⟨b, o, p, rfl, hpk, hbb, hcc⟩ := pc_at HS.out hlt
        obtain ⟨b2, o2, q, rfl, hqk, hbb2, hcc2⟩ := pc_at HS'.out hlt
        have hki : (k : Int) < n := by omega
        have HPK := Lib.hid hpk; have HQK := Lib.hid hqk
        obtain ⟨eb, heb⟩ : ∃ b, eqL p.bs q.bs = b := ⟨_, rfl⟩
        have HEB := Lib.hid heb
        clear hpk hqk heb
        go_wp2_with fail
        refine (bytesEq_any w _ _ p.A q.A p.n q.n p.c q.c p.bs q.bs (HPB.out p (List.mem_of_getElem? HPK.out)) (HQB.out q (List.mem_of_getElem? HQK.out)) (HP.out p (List.mem_of_getElem? HPK.out)) (HQ.out q (List.mem_of_getElem? HQK.out))).mono ?_
        rw [HEB.out]
        rintro e w2 ⟨rfl, rfl⟩
        cases eb
        · have HF : Hid (decide (bsP ps = bsP qs) = false) := by
            show _ = _
            rw [decide_eq_false]
            exact take_ne (bsP_get HPK.out) (bsP_get HQK.out) (eqL_false HEB.out)
          go_wp2_with fail
          go_ret
          exact ⟨by rw [HF.out]; rfl, rfl⟩
        · have HT2 := Lib.hid (take_eq_step HT.out (bsP_get HPK.out) (bsP_get HQK.out) (eqL_true HEB.out))
          go_wp2_with fail
          go_roundw
          case rel => exact ⟨k + 1, by omega, by go_num, by first | rfl | trivial, HT2.out⟩
          case measure => simp [intOf]; omega
      · obtain rfl : k = n := by omega
        have HF : Hid (decide (bsP ps = bsP qs) = true) := by
          show _ = _
          rw [decide_eq_true]
          exact take_all HT.out (by rw [bsP_len, HL.out]) (by rw [bsP_len, HL'.out])
        go_wp2_with fail
        go_ret
        exact ⟨by rw [HF.out]; rfl, rfl⟩
  · have HF : Hid (decide (bsP ps = bsP qs) = false) := by
      show _ = _
      rw [decide_eq_false]
      intro e; have := congrArg List.length e; rw [bsP_len, bsP_len] at this; omega
    have h1 : ((n : Int) != (m : Int)) = true := by simp; omega
    have h2 : ¬ ((n : Int) = m) := by omega
    clear hs hs' hp hq hpb hqb hl hl' hle
    go_enter Try.func102, Try.ntmps102
    go_wp2_with fail
    go_ret
    exact ⟨by rw [HF.out]; rfl, rfl⟩

set_option maxRecDepth 20000 in
set_option maxHeartbeats 4000000 in
theorem sgSame_any (w : World) (t t' : List Int) (ht : DgOk t) (ht' : DgOk t') (n n' : Int) (A A' B B' : Option Addr) (N C N' C' M D M' D' : Nat) (ps ps' : List Int) (qs qs' : List Pc)
    (hs : Sl w w.heap.size 1 A N (ps.map (.int .u8))) (hs' : Sl w w.heap.size 1 A' N' (ps'.map (.int .u8))) (hbo : ByOk ps) (hbo' : ByOk ps') (hq : Sl w w.heap.size 1 B M (qs.map Pc.v)) (hq' : Sl w w.heap.size 1 B' M' (qs'.map Pc.v)) (hp : PcsOk w qs) (hp' : PcsOk w qs') (hqb : PcsBy qs) (hqb' : PcsBy qs') :
    Calls Try.prog 56 #[.agg (sgC n t (.slice A N C) (.slice B M D)).toArray, .agg (sgC n' t' (.slice A' N' C') (.slice B' M' D')).toArray] w fun e w' => e = .returned (.bool (sameG t t' n n' ps ps' (bsP qs) (bsP qs'))) ∧ Below w.heap.size w w' := by
  unfold sameG
  have HTZ : Hid ((Try.prog.info? 31).map (·.size) = some (staC n t (.slice A N C)).length) := by show _ = _; rw [staC_len ht]; exact st_size
  have HUZ : Hid ((Try.prog.info? 31).map (·.size) = some (staC n' t' (.slice A' N' C')).length) := by show _ = _; rw [staC_len ht']; exact st_size
  obtain ⟨X, hX⟩ : ∃ X, (sgC n t (.slice A N C) (.slice B M D)).toArray = X := ⟨_, rfl⟩
  obtain ⟨Y, hY⟩ : ∃ Y, (sgC n' t' (.slice A' N' C') (.slice B' M' D')).toArray = Y := ⟨_, rfl⟩
  obtain ⟨w1, hw1⟩ : ∃ w1, (w.alloc (.cells X 101)).alloc (.cells Y 101) = w1 := ⟨_, rfl⟩
  have hb1 : Below w.heap.size w w1 := hw1 ▸ (below_new w _).alloc (by simp) _
  have kx : Bk w1 w.heap.size 101 (sgC n t (.slice A N C) (.slice B M D)) := hw1 ▸ (Bk.new' w _ X (by rw [← hX])).alloc _
  have ky : Bk w1 (w.heap.size + 1) 101 (sgC n' t' (.slice A' N' C') (.slice B' M' D')) := hw1 ▸ Bk.at_ _ _ Y (by simp) (by rw [← hY])
  have HW := Lib.hid hw1; have HBB1 := Lib.hid hb1; have HA1 := Lib.hid kx; have HB1 := Lib.hid ky; have HTO := Lib.hid ht; have HUO := Lib.hid ht'
  have HS0 := Lib.hid hs; have HS0' := Lib.hid hs'; have HQ0 := Lib.hid hq; have HQ0' := Lib.hid hq'; have HP0 := Lib.hid hp; have HP0' := Lib.hid hp'; have HBO := Lib.hid hbo; have HBO' := Lib.hid hbo'; have HQB := Lib.hid hqb; have HQB' := Lib.hid hqb'
  rw [hX, hY]
  clear hX hY hw1 hb1 kx ky hs hs' hq hq' hp hp' hbo hbo' hqb hqb'
  have HSA := Lib.hid (stSame_any w1 n n' t t' ht ht' A A' N N' C C' ps ps' HBO.out HBO'.out (HS0.out.later HBB1.out) (HS0'.out.later HBB1.out))
  obtain ⟨b1, hb1⟩ : ∃ b, sameS t t' n n' ps ps' = b := ⟨_, rfl⟩
  rw [hb1] at HSA ⊢
  have h10 := (sg_mem ht HA1.out).c10
  have h10' := (sg_mem ht' HB1.out).c10
  have hrS := (sg_mem ht HA1.out).rS
  have hrS' := (sg_mem ht' HB1.out).rS
  clear hb1 ht ht'
  cases b1
  all_goals
    go_enter Try.func56, Try.ntmps56
    go_upto_region 1 with fail
    rw [HW.out]
    go_wp2_with (first
      | ((with_reducible refine wpList_load_mid rfl 31 _ rfl w.heap.size 0 rfl (staC n t (.slice A N C)) _ hrS Try.underlying31 rfl HTZ.out ?_))
      | ((with_reducible refine wpList_load_mid rfl 31 _ rfl (w.heap.size + 1) 0 rfl (staC n' t' (.slice A' N' C')) _ hrS' Try.underlying31 rfl HUZ.out ?_)))
    refine HSA.out.mono ?_
    rintro e w2 ⟨rfl, hbn⟩
    have HBB2 := Lib.hid (below_then HBB1.out hbn)
    have HA2 := Lib.hid (HA1.out.later hbn)
    have HB2 := Lib.hid (HB1.out.later hbn)
    clear hbn
    clear h10 h10' hrS hrS'
    have h10 := (sg_mem HTO.out HA2.out).c10
    have h10' := (sg_mem HUO.out HB2.out).c10
  · go_wp2_with fail
    go_ret
    exact ⟨by simp, HBB2.out⟩
  · go_wp2_with fail
    refine (eqFunc_any w2 B B' M M' D D' qs qs' (HQ0.out.later HBB2.out) (HQ0'.out.later HBB2.out) (HP0.out.later HBB2.out) (HP0'.out.later HBB2.out) HQB.out HQB'.out).mono ?_
    obtain ⟨b2, hb2⟩ : ∃ b, decide (bsP qs = bsP qs') = b := ⟨_, rfl⟩
    have HD2 := Lib.hid hb2
    rw [hb2]
    rintro e w3 ⟨rfl, rfl⟩
    clear hb2
    go_wp2_with fail
    go_ret
    exact ⟨by rw [HD2.out]; simp, HBB2.out⟩

set_option maxRecDepth 20000 in
set_option maxHeartbeats 4000000 in
theorem rsgSame_any (w : World) (t t' : List Int) (ht : DgOk t) (ht' : DgOk t') (n n' : Int) (A A' B B' : Option Addr) (N C N' C' M D M' D' : Nat) (ps ps' : List Int) (qs qs' : List Pc)
    (hs : Sl w w.heap.size 1 A N (ps.map (.int .u8))) (hs' : Sl w w.heap.size 1 A' N' (ps'.map (.int .u8))) (hbo : ByOk ps) (hbo' : ByOk ps') (hq : Sl w w.heap.size 1 B M (qs.map Pc.v)) (hq' : Sl w w.heap.size 1 B' M' (qs'.map Pc.v)) (hp : PcsOk w qs) (hp' : PcsOk w qs') (hqb : PcsBy qs) (hqb' : PcsBy qs') :
    Calls Try.prog 55 #[.agg (sgC n t (.slice A N C) (.slice B M D)).toArray, .agg (sgC n' t' (.slice A' N' C') (.slice B' M' D')).toArray] w fun e w' => e = .returned (.bool (sameG t t' n n' ps ps' (bsP qs) (bsP qs'))) ∧ Below w.heap.size w w' := by
  unfold sameG
  have HTZ : Hid ((Try.prog.info? 103).map (·.size) = some (staC n t (.slice A N C)).length) := by show _ = _; rw [staC_len ht]; exact rst_size
  have HUZ : Hid ((Try.prog.info? 103).map (·.size) = some (staC n' t' (.slice A' N' C')).length) := by show _ = _; rw [staC_len ht']; exact rst_size
  have hl := hq.length; have hl' := hq'.length
  have hMle := hq.le
  obtain ⟨X, hX⟩ : ∃ X, (sgC n t (.slice A N C) (.slice B M D)).toArray = X := ⟨_, rfl⟩
  obtain ⟨Y, hY⟩ : ∃ Y, (sgC n' t' (.slice A' N' C') (.slice B' M' D')).toArray = Y := ⟨_, rfl⟩
  obtain ⟨w1, hw1⟩ : ∃ w1, (w.alloc (.cells X 105)).alloc (.cells Y 105) = w1 := ⟨_, rfl⟩
  have hb1 : Below w.heap.size w w1 := hw1 ▸ (below_new w _).alloc (by simp) _
  have kx : Bk w1 w.heap.size 105 (sgC n t (.slice A N C) (.slice B M D)) := hw1 ▸ (Bk.new' w _ X (by rw [← hX])).alloc _
  have ky : Bk w1 (w.heap.size + 1) 105 (sgC n' t' (.slice A' N' C') (.slice B' M' D')) := hw1 ▸ Bk.at_ _ _ Y (by simp) (by rw [← hY])
  have HW := Lib.hid hw1; have HBB1 := Lib.hid hb1; have HA1 := Lib.hid kx; have HB1 := Lib.hid ky; have HTO := Lib.hid ht; have HUO := Lib.hid ht'
  have HS0 := Lib.hid hs; have HS0' := Lib.hid hs'; have HQ0 := Lib.hid hq; have HQ0' := Lib.hid hq'; have HP0 := Lib.hid hp; have HP0' := Lib.hid hp'; have HBO := Lib.hid hbo; have HBO' := Lib.hid hbo'; have HQB := Lib.hid hqb; have HQB' := Lib.hid hqb'
  rw [hX, hY]
  clear hX hY hw1 hb1 kx ky hs hs' hq hq' hp hp' hbo hbo' hqb hqb'
  have HSA := Lib.hid (rstSame_any w1 n n' t t' ht ht' A A' N N' C C' ps ps' HBO.out HBO'.out (HS0.out.later HBB1.out) (HS0'.out.later HBB1.out))
  obtain ⟨b1, hb1⟩ : ∃ b, sameS t t' n n' ps ps' = b := ⟨_, rfl⟩
  rw [hb1] at HSA ⊢
  have hrS := (sg_mem ht HA1.out).rS
  have hrS' := (sg_mem ht' HB1.out).rS
  have HL := Lib.hid hl; have HL' := Lib.hid hl'
  clear hb1 ht ht' hl hl'
  by_cases hnm : M = M'
  · subst hnm
    have hne : ((M : Int) != (M : Int)) = false := by simp
    cases b1
    all_goals
      go_enter Try.func55, Try.ntmps55
      go_upto_region 1 with fail
      rw [HW.out]
      go_wp2_with (first
        | ((with_reducible refine wpList_load_mid rfl 103 _ rfl w.heap.size 0 rfl (staC n t (.slice A N C)) _ hrS Try.underlying103 rfl HTZ.out ?_))
        | ((with_reducible refine wpList_load_mid rfl 103 _ rfl (w.heap.size + 1) 0 rfl (staC n' t' (.slice A' N' C')) _ hrS' Try.underlying103 rfl HUZ.out ?_)))
      refine HSA.out.mono ?_
      rintro e w2 ⟨rfl, hbn⟩
      have HBB2 := Lib.hid (below_then HBB1.out hbn)
      have HA2 := Lib.hid (HA1.out.later hbn)
      have HB2 := Lib.hid (HB1.out.later hbn)
      clear hbn
      clear hrS hrS'
      have h10 := (sg_mem HTO.out HA2.out).c10
      have h10' := (sg_mem HUO.out HB2.out).c10
    · go_wp2_with fail
      go_ret
      exact ⟨by simp, HBB2.out⟩
    · go_wp2_with fail
      go_loopw [5] (fun iv wr => ∃ k : Nat, k ≤ M ∧ iv = .int .i64 k ∧ Hid (Below w2.heap.size w2 wr) ∧ Hid ((bsP qs).take k = (bsP qs').take k)) (fun iv _ => M - (intOf iv).toNat)
      case atStart => exact ⟨0, Nat.zero_le _, rfl, Below.refl _ _, rfl⟩
      case round =>
        obtain ⟨k, hk, rfl, HBR, HT⟩ := hrel
        have HBB3 := Lib.hid (below_then HBB2.out HBR.out); have HA3 := Lib.hid (HA2.out.later HBR.out); have HB3 := Lib.hid (HB2.out.later HBR.out)
        clear h10 h10'
        have h10 := (sg_mem HTO.out HA3.out).c10
        have h10' := (sg_mem HUO.out HB3.out).c10
        by_cases hlt : k < M
        · obtain ⟨b, o, p, rfl, hpk, hbb, hcc⟩ := pc_at (HQ0.out.later HBB3.out) hlt
          obtain ⟨b2, o2, q, rfl, hqk, hbb2, hcc2⟩ := pc_at (HQ0'.out.later HBB3.out) hlt
          have hki : (k : Int) < M := by omega
          have HPK := Lib.hid hpk; have HQK := Lib.hid hqk; have HC1 := Lib.hid hcc; have HC2 := Lib.hid hcc2
          have HX3 := Lib.hid (HP0.out.later HBB3.out p (List.mem_of_getElem? hpk)); have HY3 := Lib.hid (HP0'.out.later HBB3.out q (List.mem_of_getElem? hqk))
          obtain ⟨eb, heb⟩ : ∃ b, eqL p.bs q.bs = b := ⟨_, rfl⟩
          have HEB := Lib.hid heb
          have hst := str_eq (HQB.out p (List.mem_of_getElem? hpk)) (HQB'.out q (List.mem_of_getElem? hqk)) heb
          obtain ⟨s1, hs1⟩ : ∃ s, strOf p.bs = s := ⟨_, rfl⟩
          obtain ⟨s2, hs2⟩ : ∃ s, strOf q.bs = s := ⟨_, rfl⟩
          have HCV1 : Hid (∀ w', Sl w' wr.heap.size 1 p.A p.n (p.bs.map (.int .u8)) → (convert 23 9 (.slice p.A p.n p.c)).run Try.prog w' = .ok (.string s1) w') := fun w' h => by rw [← hs1]; exact conv_any w' _ _ _ _ _ h
          have HCV2 : Hid (∀ w', Sl w' wr.heap.size 1 q.A q.n (q.bs.map (.int .u8)) → (convert 23 9 (.slice q.A q.n q.c)).run Try.prog w' = .ok (.string s2) w') := fun w' h => by rw [← hs2]; exact conv_any w' _ _ _ _ _ h
          rw [hs1, hs2] at hst
          clear hpk hqk heb hs1 hs2 hcc hcc2
          go_wp2_with fail
          clear h10 h10'
          refine wp_region_held_drew (S := fun w' => Bk w' w.heap.size 105 (sgC n t (.slice A N C) (.slice (some ⟨b, o, none⟩) M D)) ∧ Bk w' (w.heap.size + 1) 105 (sgC n' t' (.slice A' N' C') (.slice (some ⟨b2, o2, none⟩) M D')) ∧ w'.cell? ⟨b, o + k, none⟩ = some (.slice p.A p.n p.c) ∧ w'.cell? ⟨b2, o2 + k, none⟩ = some (.slice q.A q.n q.c) ∧ Sl w' wr.heap.size 1 p.A p.n (p.bs.map (.int .u8)) ∧ Sl w' wr.heap.size 1 q.A q.n (q.bs.map (.int .u8))) (by kernel_rfl) ⟨Bk.drew HA3.out, Bk.drew HB3.out, HC1.out, HC2.out, HX3.out.drew, HY3.out.drew⟩ (fun hHeld => ?_)
          refine wpAnyH_take (i := 0) (v := ?_) rfl (by kernel_rfl) (by kernel_rfl) (by kernel_rfl) (fun _ _ _ h => h) (Or.inl ⟨by rfl, ?_⟩) (by assumption) ?_
          rotate_left
          · intro w hSw
            (try dsimp only at hSw)
            go_simp
            try with_reducible rfl
          try simp only [Act.put, List.setIfInBounds_toArray, List.set_cons_zero, List.set_cons_succ, List.getElem_toArray, List.getElem_cons_zero]
          refine wpAnyH_take (i := 2) (v := ?_) rfl (by kernel_rfl) (by kernel_rfl) (by kernel_rfl) (fun _ _ _ h => h) (Or.inl ⟨by rfl, ?_⟩) (by assumption) ?_
          rotate_left
          · intro w hSw
            (try dsimp only at hSw)
            go_simp
            try with_reducible rfl
          try simp only [Act.put, List.setIfInBounds_toArray, List.set_cons_zero, List.set_cons_succ, List.getElem_toArray, List.getElem_cons_zero, List.getElem_cons_succ]
          refine wpAnyH_take (i := 6) (v := ?_) rfl (by kernel_rfl) (by kernel_rfl) (by kernel_rfl) (fun _ _ _ h => h) (Or.inl ⟨by rfl, ?_⟩) (by assumption) ?_
          rotate_left
          · intro w hSw
            (try dsimp only at hSw)
            go_simp
            try with_reducible rfl
          try simp only [Act.put, List.setIfInBounds_toArray, List.set_cons_zero, List.set_cons_succ, List.getElem_toArray, List.getElem_cons_zero, List.getElem_cons_succ]
          refine wpAnyH_take (i := 8) (v := ?_) rfl (by kernel_rfl) (by kernel_rfl) (by kernel_rfl) (fun _ _ _ h => h) (Or.inl ⟨by rfl, ?_⟩) (by assumption) ?_
          rotate_left
          · intro w hSw
            (try dsimp only at hSw)
            go_simp
            try with_reducible rfl
          try simp only [Act.put, List.setIfInBounds_toArray, List.set_cons_zero, List.set_cons_succ, List.getElem_toArray, List.getElem_cons_zero, List.getElem_cons_succ]
          refine wpAnyH_take (i := 1) (v := ?_) rfl (by kernel_rfl) (by kernel_rfl) (by kernel_rfl) (fun _ _ _ h => h) (Or.inl ⟨by rfl, ?_⟩) (by assumption) ?_
          rotate_left
          · intro w hSw
            have hcell := (sg_mem HTO.out hSw.1).c10
            clear hSw
            go_simp
            try with_reducible rfl
          try simp only [Act.put, List.setIfInBounds_toArray, List.set_cons_zero, List.set_cons_succ, List.getElem_toArray, List.getElem_cons_zero, List.getElem_cons_succ]
          refine wpAnyH_take (i := 7) (v := ?_) rfl (by kernel_rfl) (by kernel_rfl) (by kernel_rfl) (fun _ _ _ h => h) (Or.inl ⟨by rfl, ?_⟩) (by assumption) ?_
          rotate_left
          · intro w hSw
            have hcell := (sg_mem HUO.out hSw.2.1).c10
            clear hSw
            go_simp
            try with_reducible rfl
          try simp only [Act.put, List.setIfInBounds_toArray, List.set_cons_zero, List.set_cons_succ, List.getElem_toArray, List.getElem_cons_zero, List.getElem_cons_succ]
          refine wpAnyH_take (i := 3) (v := ?_) rfl (by kernel_rfl) (by kernel_rfl) (by kernel_rfl) (fun _ _ _ h => h) (Or.inl ⟨by rfl, ?_⟩) (by assumption) ?_
          rotate_left
          · intro w hSw
            (try dsimp only at hSw)
            go_simp
            try with_reducible rfl
          try simp only [Act.put, List.setIfInBounds_toArray, List.set_cons_zero, List.set_cons_succ, List.getElem_toArray, List.getElem_cons_zero, List.getElem_cons_succ]
          refine wpAnyH_take (i := 9) (v := ?_) rfl (by kernel_rfl) (by kernel_rfl) (by kernel_rfl) (fun _ _ _ h => h) (Or.inl ⟨by rfl, ?_⟩) (by assumption) ?_
          rotate_left
          · intro w hSw
            (try dsimp only at hSw)
            go_simp
            try with_reducible rfl
          try simp only [Act.put, List.setIfInBounds_toArray, List.set_cons_zero, List.set_cons_succ, List.getElem_toArray, List.getElem_cons_zero, List.getElem_cons_succ]
          refine wpAnyH_take (i := 4) (v := ?_) rfl (by kernel_rfl) (by kernel_rfl) (by kernel_rfl) (fun _ _ _ h => h) (Or.inl ⟨by rfl, ?_⟩) (by assumption) ?_
          rotate_left
          · intro w hSw
            have hcell := hSw.2.2.1
            clear hSw
            go_simp
            try with_reducible rfl
          try simp only [Act.put, List.setIfInBounds_toArray, List.set_cons_zero, List.set_cons_succ, List.getElem_toArray, List.getElem_cons_zero, List.getElem_cons_succ]
          refine wpAnyH_take (i := 10) (v := ?_) rfl (by kernel_rfl) (by kernel_rfl) (by kernel_rfl) (fun _ _ _ h => h) (Or.inl ⟨by rfl, ?_⟩) (by assumption) ?_
          rotate_left
          · intro w hSw
            have hcell := hSw.2.2.2.1
            clear hSw
            go_simp
            try with_reducible rfl
          try simp only [Act.put, List.setIfInBounds_toArray, List.set_cons_zero, List.set_cons_succ, List.getElem_toArray, List.getElem_cons_zero, List.getElem_cons_succ]
          refine wpAnyH_take (i := 5) (v := ?_) rfl (by kernel_rfl) (by kernel_rfl) (by kernel_rfl) (fun _ _ _ h => h) (Or.inl ⟨by rfl, ?_⟩) (by assumption) ?_
          rotate_left
          · intro w hSw
            have hcell := HCV1.out _ hSw.2.2.2.2.1
            clear hSw
            go_simp
            try with_reducible rfl
          try simp only [Act.put, List.setIfInBounds_toArray, List.set_cons_zero, List.set_cons_succ, List.getElem_toArray, List.getElem_cons_zero, List.getElem_cons_succ]
          refine wpAnyH_take (i := 11) (v := ?_) rfl (by kernel_rfl) (by kernel_rfl) (by kernel_rfl) (fun _ _ _ h => h) (Or.inl ⟨by rfl, ?_⟩) (by assumption) ?_
          rotate_left
          · intro w hSw
            have hcell := HCV2.out _ hSw.2.2.2.2.2
            clear hSw
            go_simp
            try with_reducible rfl
          try simp only [Act.put, List.setIfInBounds_toArray, List.set_cons_zero, List.set_cons_succ, List.getElem_toArray, List.getElem_cons_zero, List.getElem_cons_succ]
          refine wpAnyH_take (i := 12) (v := ?_) rfl (by kernel_rfl) (by kernel_rfl) (by kernel_rfl) (fun _ _ _ h => h) (Or.inl ⟨by rfl, ?_⟩) (by assumption) ?_
          rotate_left
          · intro w hSw
            (try dsimp only at hSw)
            go_simp
            try with_reducible rfl
          try simp only [Act.put, List.setIfInBounds_toArray, List.set_cons_zero, List.set_cons_succ, List.getElem_toArray, List.getElem_cons_zero, List.getElem_cons_succ]
          refine wpAnyH_done (by kernel_rfl) ?_ _
          clear hHeld
          have HBR2 := Lib.hid (HBR.out.drew)
          cases eb
          · have HF : Hid (decide (bsP qs = bsP qs') = false) := by
              show _ = _
              rw [decide_eq_false]
              exact take_ne (bsP_get HPK.out) (bsP_get HQK.out) (eqL_false HEB.out)
            go_wp2_with fail
            go_ret
            exact ⟨by rw [HF.out]; simp, HBB3.out.drew⟩
          · have HT2 := Lib.hid (take_eq_step HT.out (bsP_get HPK.out) (bsP_get HQK.out) (eqL_true HEB.out))
            go_wp2_with fail
            go_roundw
            case rel => exact ⟨k + 1, by omega, by go_num, HBR2.out, HT2.out⟩
            case measure => simp [intOf]; omega
        · obtain rfl : k = M := by omega
          have HF : Hid (decide (bsP qs = bsP qs') = true) := by
            show _ = _
            rw [decide_eq_true]
            exact take_all HT.out (by rw [bsP_len, HL.out]) (by rw [bsP_len, HL'.out])
          go_wp2_with fail
          go_ret
          exact ⟨by rw [HF.out]; simp, HBB3.out⟩
  · have HF : Hid (decide (bsP qs = bsP qs') = false) := by
      show _ = _
      rw [decide_eq_false]
      intro e; have := congrArg List.length e; rw [bsP_len, bsP_len, HL.out, HL'.out] at this; exact hnm this
    have hne : ((M : Int) != (M' : Int)) = true := by simp; omega
    cases b1
    all_goals
      go_enter Try.func55, Try.ntmps55
      go_upto_region 1 with fail
      rw [HW.out]
      go_wp2_with (first
        | ((with_reducible refine wpList_load_mid rfl 103 _ rfl w.heap.size 0 rfl (staC n t (.slice A N C)) _ hrS Try.underlying103 rfl HTZ.out ?_))
        | ((with_reducible refine wpList_load_mid rfl 103 _ rfl (w.heap.size + 1) 0 rfl (staC n' t' (.slice A' N' C')) _ hrS' Try.underlying103 rfl HUZ.out ?_)))
      refine HSA.out.mono ?_
      rintro e w2 ⟨rfl, hbn⟩
      have HBB2 := Lib.hid (below_then HBB1.out hbn)
      have HA2 := Lib.hid (HA1.out.later hbn)
      have HB2 := Lib.hid (HB1.out.later hbn)
      clear hbn
      clear hrS hrS'
      have h10 := (sg_mem HTO.out HA2.out).c10
      have h10' := (sg_mem HUO.out HB2.out).c10
      go_wp2_with fail
      go_ret
      exact ⟨by rw [HF.out]; simp, HBB2.out⟩
end Go.Proofs.Ythibihjblodfmaa
