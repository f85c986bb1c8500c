/- States and what is signed, compared: the program's and the document's. -/
import Derived.Test.YthibihjblodfmaaS11
namespace Go.Proofs.Ythibihjblodfmaa
open Go.RowKit Go.Maps

def sameS (t t' : List Int) (n n' : Int) (ps ps' : List Int) : Bool := eqL t t' && (n == n') && eqL ps ps'
set_option maxRecDepth 20000 in
set_option maxHeartbeats 2000000 in
theorem stSame_any (w : World) (n n' : Int) (t t' : List Int) (ht : DgOk t) (ht' : DgOk t') (A A' : Option Addr) (N N' C C' : Nat) (ps ps' : List Int) (hp : ByOk ps) (hp' : ByOk ps') (hs : Sl w w.heap.size 1 A N (ps.map (.int .u8))) (hs' : Sl w w.heap.size 1 A' N' (ps'.map (.int .u8))) :
    Calls Try.prog 99 #[.agg (staC n t (.slice A N C)).toArray, .agg (staC n' t' (.slice A' N' C')).toArray] w fun e w' => e = .returned (.bool (sameS t t' n n' ps ps')) ∧ Below w.heap.size w w' := by
  unfold sameS
  obtain ⟨X, hX⟩ : ∃ X, (staC n t (.slice A N C)).toArray = X := ⟨_, rfl⟩
  obtain ⟨Y, hY⟩ : ∃ Y, (staC n' t' (.slice A' N' C')).toArray = Y := ⟨_, rfl⟩
  obtain ⟨w1, hw1⟩ : ∃ w1, (w.alloc (.cells X 31)).alloc (.cells Y 31) = w1 := ⟨_, rfl⟩
  have hb1 : Below w.heap.size w w1 := hw1 ▸ (below_new w _).alloc (by simp) _
  have kx : Bk w1 w.heap.size 31 (staC n t (.slice A N C)) := hw1 ▸ (Bk.new' w _ X (by rw [← hX])).alloc _
  have ky : Bk w1 (w.heap.size + 1) 31 (staC n' t' (.slice A' N' C')) := hw1 ▸ Bk.at_ _ _ Y (by simp) (by rw [← hY])
  have hm := sta_mem ht kx
  have hm' := sta_mem ht' ky
  have HW := Lib.hid hw1; have HB := Lib.hid hb1; have HM := Lib.hid hm; have HM' := Lib.hid hm'; have HP := Lib.hid hp; have HP' := Lib.hid hp'; have HS := Lib.hid (hs.below hb1); have HS' := Lib.hid (hs'.below hb1)
  have HT8 : Hid ((Try.prog.info? 29).map (·.size) = some (dl t).length) := by show _ = _; rw [dl_len, ht.len]; exact dg_size
  have HT8' : Hid ((Try.prog.info? 29).map (·.size) = some (dl t').length) := by show _ = _; rw [dl_len, ht'.len]; exact dg_size
  have heq := dg_eq_run t t' ht ht'
  have c8 := hm.c8; have c9 := hm.c9; have d8 := hm'.c8; have d9 := hm'.c9
  rw [hX, hY]
  obtain ⟨b1, hb⟩ : ∃ b1, eqL t t' = b1 := ⟨_, rfl⟩
  obtain ⟨b2, hb2⟩ : ∃ b2, (n == n') = b2 := ⟨_, rfl⟩
  obtain ⟨b3, hb3⟩ : ∃ b3, eqL ps ps' = b3 := ⟨_, rfl⟩
  rw [hb] at heq ⊢
  rw [hb2, hb3]
  have HB3 := Lib.hid hb3
  clear hX hY hw1 hb1 kx ky hm hm' hp hp' hs hs' ht ht' hb hb3
  cases b1
  · simp only [Bool.false_and]
    go_enter Try.func99, Try.ntmps99
    go_upto_region 1 with fail
    rw [HW.out]
    go_wp2_with (first
      | (with_reducible refine wpList_load_mid rfl 29 _ rfl w.heap.size 0 rfl (dl t) _ HM.out.r0 Try.underlying29 rfl HT8.out ?_)
      | (with_reducible refine wpList_load_mid rfl 29 _ rfl (w.heap.size + 1) 0 rfl (dl t') _ HM'.out.r0 Try.underlying29 rfl HT8'.out ?_))
    go_ret
    exact ⟨rfl, HB.out⟩
  · cases b2
    · simp only [Bool.true_and, Bool.false_and]
      go_enter Try.func99, Try.ntmps99
      go_upto_region 1 with fail
      rw [HW.out]
      go_wp2_with (first
        | (with_reducible refine wpList_load_mid rfl 29 _ rfl w.heap.size 0 rfl (dl t) _ HM.out.r0 Try.underlying29 rfl HT8.out ?_)
        | (with_reducible refine wpList_load_mid rfl 29 _ rfl (w.heap.size + 1) 0 rfl (dl t') _ HM'.out.r0 Try.underlying29 rfl HT8'.out ?_))
      go_ret
      exact ⟨rfl, HB.out⟩
    · simp only [Bool.true_and]
      go_enter Try.func99, Try.ntmps99
      go_upto_region 1 with fail
      rw [HW.out]
      go_wp2_with (first
        | (with_reducible refine wpList_load_mid rfl 29 _ rfl w.heap.size 0 rfl (dl t) _ HM.out.r0 Try.underlying29 rfl HT8.out ?_)
        | (with_reducible refine wpList_load_mid rfl 29 _ rfl (w.heap.size + 1) 0 rfl (dl t') _ HM'.out.r0 Try.underlying29 rfl HT8'.out ?_))
      refine (bytesEq_any _ _ _ A A' N N' C C' ps ps' HP.out HP'.out HS.out HS'.out).mono ?_
      rintro e w2 ⟨rfl, rfl⟩
      rw [HB3.out]
      go_wp2_with fail
      go_ret
      exact ⟨rfl, HB.out⟩
theorem str_eq {x y : List Int} {b : Bool} (hx : ByOk x) (hy : ByOk y) (h : eqL x y = b) : ((strOf x).toList == (strOf y).toList) = b := by rw [strOf_beq x y hx hy, h]
theorem rsta_mem {w : World} {g : Nat} {n : Int} {t : List Int} {p : Value} (ht : DgOk t) (h : Bk w g 103 (staC n t p)) : StM w g n t p := st_mem ht h
set_option maxRecDepth 20000 in
set_option maxHeartbeats 2000000 in
theorem rstSame_any (w : World) (n n' : Int) (t t' : List Int) (ht : DgOk t) (ht' : DgOk t') (A A' : Option Addr) (N N' C C' : Nat) (ps ps' : List Int) (hp : ByOk ps) (hp' : ByOk ps') (hs : Sl w w.heap.size 1 A N (ps.map (.int .u8))) (hs' : Sl w w.heap.size 1 A' N' (ps'.map (.int .u8))) :
    Calls Try.prog 101 #[.agg (staC n t (.slice A N C)).toArray, .agg (staC n' t' (.slice A' N' C')).toArray] w fun e w' => e = .returned (.bool (sameS t t' n n' ps ps')) ∧ Below w.heap.size w w' := by
  unfold sameS
  obtain ⟨X, hX⟩ : ∃ X, (staC n t (.slice A N C)).toArray = X := ⟨_, rfl⟩
  obtain ⟨Y, hY⟩ : ∃ Y, (staC n' t' (.slice A' N' C')).toArray = Y := ⟨_, rfl⟩
  obtain ⟨w1, hw1⟩ : ∃ w1, (w.alloc (.cells X 103)).alloc (.cells Y 103) = w1 := ⟨_, rfl⟩
  have hb1 : Below w.heap.size w w1 := hw1 ▸ (below_new w _).alloc (by simp) _
  have kx : Bk w1 w.heap.size 103 (staC n t (.slice A N C)) := hw1 ▸ (Bk.new' w _ X (by rw [← hX])).alloc _
  have ky : Bk w1 (w.heap.size + 1) 103 (staC n' t' (.slice A' N' C')) := hw1 ▸ Bk.at_ _ _ Y (by simp) (by rw [← hY])
  have hm := rsta_mem ht kx
  have hm' := rsta_mem ht' ky
  have HW := Lib.hid hw1; have HB := Lib.hid hb1; have HM := Lib.hid hm; have HM' := Lib.hid hm'
  have HT8 := Lib.hid (r8d_size t ht); have HT8' := Lib.hid (r8d_size t' ht')
  have heq := rdg_eq_run t t' ht ht'
  have c8 := hm.c8; have c9 := hm.c9; have d8 := hm'.c8; have d9 := hm'.c9
  have hc1 := conv_any w1 _ A N C ps (hs.later hb1)
  have hc2 := conv_any w1 _ A' N' C' ps' (hs'.later hb1)
  rw [hX, hY]
  obtain ⟨b1, hb⟩ : ∃ b1, eqL t t' = b1 := ⟨_, rfl⟩
  obtain ⟨b2, hb2⟩ : ∃ b2, (n == n') = b2 := ⟨_, rfl⟩
  obtain ⟨b3, hb3⟩ : ∃ b3, eqL ps ps' = b3 := ⟨_, rfl⟩
  have hst := str_eq hp hp' hb3
  obtain ⟨s1, hs1⟩ : ∃ s, strOf ps = s := ⟨_, rfl⟩
  obtain ⟨s2, hs2⟩ : ∃ s, strOf ps' = s := ⟨_, rfl⟩
  rw [hs1] at hst hc1
  rw [hs2] at hst hc2
  rw [hb] at heq ⊢
  rw [hb2, hb3]
  clear hX hY hw1 hb1 kx ky hm hm' hp hp' hs hs' ht ht' hb hb3 hs1 hs2
  cases b1
  · simp only [Bool.false_and]
    go_enter Try.func101, Try.ntmps101
    go_upto_region 1 with fail
    rw [HW.out]
    go_wp2_with (first
      | ((with_reducible refine wpList_load_mid rfl 22 _ rfl w.heap.size 0 rfl (dl t) _ HM.out.r0 Try.underlying22 rfl HT8.out ?_))
      | ((with_reducible refine wpList_load_mid rfl 22 _ rfl (w.heap.size + 1) 0 rfl (dl t') _ HM'.out.r0 Try.underlying22 rfl HT8'.out ?_)))
    go_ret
    exact ⟨rfl, HB.out⟩
  · cases b2
    · simp only [Bool.true_and, Bool.false_and]
      go_enter Try.func101, Try.ntmps101
      go_upto_region 1 with fail
      rw [HW.out]
      go_wp2_with (first
        | ((with_reducible refine wpList_load_mid rfl 22 _ rfl w.heap.size 0 rfl (dl t) _ HM.out.r0 Try.underlying22 rfl HT8.out ?_))
        | ((with_reducible refine wpList_load_mid rfl 22 _ rfl (w.heap.size + 1) 0 rfl (dl t') _ HM'.out.r0 Try.underlying22 rfl HT8'.out ?_)))
      go_ret
      exact ⟨rfl, HB.out⟩
    · simp only [Bool.true_and]
      go_enter Try.func101, Try.ntmps101
      go_upto_region 1 with fail
      rw [HW.out]
      go_wp2_with (first
        | ((with_reducible refine wpList_load_mid rfl 22 _ rfl w.heap.size 0 rfl (dl t) _ HM.out.r0 Try.underlying22 rfl HT8.out ?_))
        | ((with_reducible refine wpList_load_mid rfl 22 _ rfl (w.heap.size + 1) 0 rfl (dl t') _ HM'.out.r0 Try.underlying22 rfl HT8'.out ?_)))
      go_ret
      exact ⟨rfl, HB.out⟩

/-! Signed states. -/
def sgC (n : Int) (t : List Int) (p q : Value) : List Value := staC n t p ++ [q]
theorem sgC_len {n : Int} {t : List Int} {p q : Value} (h : DgOk t) : (sgC n t p q).length = 11 := by simp [sgC, staC_len h]
theorem sg_size : (Try.prog.info? 101).map (·.size) = some 11 := by kernel_rfl
theorem rsg_size : (Try.prog.info? 105).map (·.size) = some 11 := by kernel_rfl
theorem rst_size : (Try.prog.info? 103).map (·.size) = some 10 := by kernel_rfl
theorem sg_one {n : Int} {t : List Int} {A B : Option Addr} {N C M D : Nat} : ∀ x ∈ sgC n t (.slice A N C) (.slice B M D), x.oneCell' = true := by
  intro x hx
  rcases List.mem_append.1 hx with hx | hx
  · exact st_one x hx
  · rw [List.mem_singleton] at hx; subst hx; rfl
structure SgM (w : World) (g : Nat) (n : Int) (t : List Int) (p q : Value) : Prop where
  c8 : w.cell? ⟨g, 8, none⟩ = some (.int .i64 n)
  c9 : w.cell? ⟨g, 9, none⟩ = some p
  c10 : w.cell? ⟨g, 10, none⟩ = some q
  r0 : w.rangeAt g 0 (dl t)
  rS : w.rangeAt g 0 (staC n t p)
theorem sg_mem {w : World} {g : Nat} {n : Int} {t : List Int} {p q : Value} {ty : TypeId} (ht : DgOk t) (h : Bk w g ty (sgC n t p q)) : SgM w g n t p q := by
  have lt := ht.len
  have h1 : Bk w g ty (dl t ++ .int .i64 n :: [p, q]) := by simpa [sgC, staC] using h
  have h2 : Bk w g ty ((dl t ++ [.int .i64 n]) ++ p :: [q]) := by simpa [sgC, staC] using h
  have h3 : Bk w g ty ((dl t ++ [.int .i64 n, p]) ++ q :: []) := by simpa [sgC, staC] using h
  have h4 : Bk w g ty ([] ++ (dl t ++ [.int .i64 n, p, q])) := by simpa [sgC, staC] using h
  have h5 : Bk w g ty ([] ++ (staC n t p ++ [q])) := by simpa [sgC] using h
  exact ⟨h1.at1 (by simp [dl_len, lt]), h2.at1 (by simp [dl_len, lt]), h3.at1 (by simp [dl_len, lt]), h4.range rfl, h5.range rfl⟩
theorem sg_preP {n : Int} {t : List Int} {p q : Value} : sgC n t p q = (dl t ++ [.int .i64 n]) ++ ([p] ++ [q]) := by simp [sgC, staC]
theorem sg_preQ {n : Int} {t : List Int} {p q : Value} : sgC n t p q = (dl t ++ [.int .i64 n, p]) ++ ([q] ++ []) := by simp [sgC, staC]
/-- The bytes of pieces, each. -/
def bsP (ps : List Pc) : List (List Int) := ps.map Pc.bs
def sameG (t t' : List Int) (n n' : Int) (ps ps' : List Int) (qs qs' : List (List Int)) : Bool := sameS t t' n n' ps ps' && decide (qs = qs')
end Go.Proofs.Ythibihjblodfmaa
