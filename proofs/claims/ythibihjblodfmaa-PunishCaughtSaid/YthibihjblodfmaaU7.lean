/- Things while others sign: what lies in memory that came in, or is the call's own. -/
import Derived.Test.YthibihjblodfmaaU6
namespace Go.Proofs.Ythibihjblodfmaa
open Go.RowKit Go.Maps

/-- Bytes that lie below what the call found, or in a row of the call's own. -/
def GSl (w1 w : World) (A : Option Addr) (N C : Nat) (bs : List Int) : Prop := Sl w1 w1.heap.size 1 A N (bs.map (.int .u8)) ∨ w.ownsRow 0 5 1 (.slice A N C) N (bs.map (.int .u8))
section
variable {w1 w w' : World} {A : Option Addr} {N C : Nat} {bs : List Int}
theorem GSl.sl (h : GSl w1 w A N C bs) (hb : Below w1.heap.size w1 w) : Sl w w.heap.size 1 A N (bs.map (.int .u8)) := by
  rcases h with h | h
  · exact h.later hb
  · exact Sl.of_own h
theorem GSl.len (h : GSl w1 w A N C bs) : bs.length = N := by
  rcases h with h | h
  · exact h.length
  · have := h.1; simpa using this
theorem GSl.later (h : GSl w1 w A N C bs) (hb : Below w.heap.size w w') : GSl w1 w' A N C bs := h.imp id fun h => own_keep h hb
theorem GSl.keeps (h : GSl w1 w A N C bs) (hk : Keeps w w') : GSl w1 w' A N C bs := h.imp id fun h => own_keeps h hk (by decide) (by decide)
theorem GSl.grown {g : Nat} {ty : TypeId} {xs : List Value} (h : GSl w1 w A N C bs) (hg : w.grownBy w' (some g)) (hb : Bk w g ty xs) (hne : 5 ≠ ty) : GSl w1 w' A N C bs := h.imp id fun h => own_only h hg (own_bk_ne h hb hne)
theorem GSl.nil : GSl w1 w none 0 0 [] := .inr (World.ownsRow_nil _ _ _ _)
end
structure ThK (w1 w : World) (cs : List Value) (T : Tg) : Prop where
  go : ∃ (A1 A2 A3 : Option Addr) (N1 N2 N3 C1 C2 C3 : Nat), cs = thC T.k T.n T.m T.t T.u T.v (.slice A1 N1 C1) (.slice A2 N2 C2) (.slice A3 N3 C3) ∧ GSl w1 w A1 N1 C1 T.ps ∧ GSl w1 w A2 N2 C2 T.qs ∧ GSl w1 w A3 N3 C3 T.ss
  po : ByOk T.ps
  qo : ByOk T.qs
  so : ByOk T.ss
  ht : DgOk T.t
  hu : DgOk T.u
  hv : DgOk T.v
  ok : TgOk T
section
variable {w1 w w' : World} {cs : List Value} {T : Tg}
theorem ThK.thg (h : ThK w1 w cs T) (hb : Below w1.heap.size w1 w) : Thg w cs T := by
  obtain ⟨⟨A1, A2, A3, N1, N2, N3, C1, C2, C3, h1, h2, h3, h4⟩, po, qo, so, a, b, c, d⟩ := h
  exact ⟨⟨A1, A2, A3, N1, N2, N3, C1, C2, C3, h1, ⟨h2.sl hb, h3.sl hb, h4.sl hb, po, qo, so⟩⟩, a, b, c, d⟩
theorem ThK.later (h : ThK w1 w cs T) (hb : Below w.heap.size w w') : ThK w1 w' cs T := by
  obtain ⟨⟨A1, A2, A3, N1, N2, N3, C1, C2, C3, h1, h2, h3, h4⟩, r1, r2, r3, r4, r5, r6, r7⟩ := h
  exact ⟨⟨A1, A2, A3, N1, N2, N3, C1, C2, C3, h1, h2.later hb, h3.later hb, h4.later hb⟩, r1, r2, r3, r4, r5, r6, r7⟩
theorem ThK.keeps (h : ThK w1 w cs T) (hk : Keeps w w') : ThK w1 w' cs T := by
  obtain ⟨⟨A1, A2, A3, N1, N2, N3, C1, C2, C3, h1, h2, h3, h4⟩, r1, r2, r3, r4, r5, r6, r7⟩ := h
  exact ⟨⟨A1, A2, A3, N1, N2, N3, C1, C2, C3, h1, h2.keeps hk, h3.keeps hk, h4.keeps hk⟩, r1, r2, r3, r4, r5, r6, r7⟩
theorem ThK.grown {g : Nat} {ty : TypeId} {xs : List Value} (h : ThK w1 w cs T) (hg : w.grownBy w' (some g)) (hb : Bk w g ty xs) (hne : 5 ≠ ty) : ThK w1 w' cs T := by
  obtain ⟨⟨A1, A2, A3, N1, N2, N3, C1, C2, C3, h1, h2, h3, h4⟩, r1, r2, r3, r4, r5, r6, r7⟩ := h
  exact ⟨⟨A1, A2, A3, N1, N2, N3, C1, C2, C3, h1, h2.grown hg hb hne, h3.grown hg hb hne, h4.grown hg hb hne⟩, r1, r2, r3, r4, r5, r6, r7⟩
theorem ThK.len (h : ThK w1 w cs T) : cs.length = 30 := by
  obtain ⟨⟨A1, A2, A3, N1, N2, N3, C1, C2, C3, h1, h2⟩, _, _, _, a, b, c, d⟩ := h
  rw [h1, thC_len a b c]
theorem ThK.one (h : ThK w1 w cs T) : ∀ x ∈ cs, x.oneCell' = true := by
  obtain ⟨⟨A1, A2, A3, N1, N2, N3, C1, C2, C3, h1, h2⟩, _⟩ := h
  rw [h1]; exact th_one
theorem ThK.info (h : ThK w1 w cs T) : (Try.prog.info? 35).map (·.size) = some cs.length := by rw [h.len]; exact th_size
/-- The signature, and another one in its place. -/
theorem ThK.sig (h : ThK w1 w cs T) : ∃ (pre : List Value) (A : Option Addr) (N C : Nat), cs = pre ++ [.slice A N C] ∧ pre.length = 29 ∧ GSl w1 w A N C T.ss ∧
    ∀ (w' : World) (A' : Option Addr) (N' C' : Nat) (ss' : List Int), ThK w1 w' cs T → GSl w1 w' A' N' C' ss' → ByOk ss' → ThK w1 w' (pre ++ [.slice A' N' C']) { T with ss := ss' } := by
  obtain ⟨⟨A1, A2, A3, N1, N2, N3, C1, C2, C3, h1, h2, h3, h4⟩, po, qo, so, a, b, c, d⟩ := h
  refine ⟨.int .i64 T.k :: (staC T.n T.t (.slice A1 N1 C1) ++ actC T.m T.u T.v (.slice A2 N2 C2)), A3, N3, C3, by rw [h1]; simp [thC], by simp [staC_len a, actC_len b c], h4, fun w' A' N' C' ss' hk hg ho => ?_⟩
  obtain ⟨⟨B1, B2, B3, M1, M2, M3, D1, D2, D3, k1, k2, k3, k4⟩, _⟩ := hk
  rw [h1] at k1
  have e1 : Value.slice A1 N1 C1 = .slice B1 M1 D1 := by
    have := congrArg (fun l : List Value => l[10]?) k1
    simpa [thC, staC, dl_len, a.len, List.getElem?_append, List.getElem?_cons] using this
  have e2 : Value.slice A2 N2 C2 = .slice B2 M2 D2 := by
    have := congrArg (fun l : List Value => l[28]?) k1
    simpa [thC, staC, actC, dl_len, a.len, b.len, c.len, List.getElem?_append, List.getElem?_cons] using this
  injection e1 with e1 e3 e4; subst e1; subst e3; subst e4
  injection e2 with e2 e3 e4; subst e2; subst e3; subst e4
  exact ⟨⟨A1, A2, A', N1, N2, N', C1, C2, C', by simp [thC], k2, k3, hg⟩, po, qo, ho, a, b, c, ⟨d.n0, d.n1, d.m0, d.m1, d.pl, d.ql⟩⟩
theorem ThK.cell (h : ThK w1 w cs T) {A : Option Addr} {N C : Nat} {pre : List Value} (hp : cs = pre ++ [.slice A N C]) (hl : pre.length = 29) {g : Nat} {w' : World} (hb : Bk w' g 35 cs) : w'.cell? ⟨g, 29, none⟩ = some (.slice A N C) := by
  rw [hb.cell, hp, List.getElem?_append_right (by omega), hl]; rfl
end
structure RthK (w1 w : World) (cs : List Value) (R : RtT) : Prop where
  go : ∃ (A B : Option Addr) (N C M D : Nat), cs = rtC R.k R.n R.t R.v (.slice A N C) (.slice B M D) R.o ∧ GSl w1 w A N C R.bs ∧ GSl w1 w B M D R.ss
  ht : DgOk R.t
  hv : DgOk R.v
  bo : ByOk R.bs
  so : ByOk R.ss
  n0 : -9223372036854775808 ≤ R.n
  n1 : R.n < 9223372036854775808
  bl : R.bs.length ≤ 1073741824
section
variable {w1 w w' : World} {cs : List Value} {R : RtT}
theorem RthK.rth (h : RthK w1 w cs R) (hb : Below w1.heap.size w1 w) : Rth w cs R := by
  obtain ⟨⟨A, B, N, C, M, D, h1, h2, h3⟩, r1, r2, r3, r4, r5, r6, r7⟩ := h
  exact ⟨⟨A, B, N, C, M, D, h1, h2.sl hb, h3.sl hb⟩, r1, r2, r3, r4, r5, r6, r7⟩
theorem RthK.later (h : RthK w1 w cs R) (hb : Below w.heap.size w w') : RthK w1 w' cs R := by
  obtain ⟨⟨A, B, N, C, M, D, h1, h2, h3⟩, r1, r2, r3, r4, r5, r6, r7⟩ := h
  exact ⟨⟨A, B, N, C, M, D, h1, h2.later hb, h3.later hb⟩, r1, r2, r3, r4, r5, r6, r7⟩
theorem RthK.keeps (h : RthK w1 w cs R) (hk : Keeps w w') : RthK w1 w' cs R := by
  obtain ⟨⟨A, B, N, C, M, D, h1, h2, h3⟩, r1, r2, r3, r4, r5, r6, r7⟩ := h
  exact ⟨⟨A, B, N, C, M, D, h1, h2.keeps hk, h3.keeps hk⟩, r1, r2, r3, r4, r5, r6, r7⟩
theorem RthK.grown {g : Nat} {ty : TypeId} {xs : List Value} (h : RthK w1 w cs R) (hg : w.grownBy w' (some g)) (hb : Bk w g ty xs) (hne : 5 ≠ ty) : RthK w1 w' cs R := by
  obtain ⟨⟨A, B, N, C, M, D, h1, h2, h3⟩, r1, r2, r3, r4, r5, r6, r7⟩ := h
  exact ⟨⟨A, B, N, C, M, D, h1, h2.grown hg hb hne, h3.grown hg hb hne⟩, r1, r2, r3, r4, r5, r6, r7⟩
theorem RthK.len (h : RthK w1 w cs R) : cs.length = 21 := by
  obtain ⟨⟨A, B, N, C, M, D, h1, h2, h3⟩, a, b, _⟩ := h
  rw [h1, rtC_len a b]
theorem RthK.info (h : RthK w1 w cs R) : (Try.prog.info? 25).map (·.size) = some cs.length := by rw [h.len]; exact rt_size
theorem RthK.sig (h : RthK w1 w cs R) : ∃ (pre : List Value) (A B : Option Addr) (N C M D : Nat), cs = (pre ++ [.slice A N C]) ++ ([.slice B M D] ++ [.bool R.o]) ∧ pre.length = 18 ∧ GSl w1 w A N C R.bs ∧ GSl w1 w B M D R.ss ∧
    ∀ (w' : World) (A' : Option Addr) (N' C' : Nat) (ss' : List Int), RthK w1 w' cs R → GSl w1 w' A' N' C' ss' → ByOk ss' → RthK w1 w' ((pre ++ [.slice A N C]) ++ ([.slice A' N' C'] ++ [.bool R.o])) { R with ss := ss' } := by
  obtain ⟨⟨A, B, N, C, M, D, h1, h2, h3⟩, r1, r2, r3, r4, r5, r6, r7⟩ := h
  refine ⟨.int .i64 R.k :: (dl R.t ++ .int .i64 R.n :: dl R.v), A, B, N, C, M, D, by rw [h1]; simp [rtC], by simp [dl_len, r1.len, r2.len], h2, h3, fun w' A' N' C' ss' hk hg ho => ?_⟩
  obtain ⟨⟨A2, B2, N2, C2, M2, D2, k1, k2, k3⟩, _⟩ := hk
  rw [h1] at k1
  have e1 : Value.slice A N C = .slice A2 N2 C2 := by
    have := congrArg (fun l : List Value => l[18]?) k1
    simpa [rtC, dl_len, r1.len, r2.len, List.getElem?_append, List.getElem?_cons] using this
  injection e1 with e1 e3 e4; subst e1; subst e3; subst e4
  exact ⟨⟨A, A', N, C, N', C', by simp [rtC], k2, hg⟩, r1, r2, r3, ho, r5, r6, r7⟩
theorem ofK (h : RthK w1 w cs R) (hb : Below w1.heap.size w1 w) : Calls Try.prog 17 #[.agg cs.toArray] w fun e w' => (∃ cs', e = .returned (.agg cs'.toArray) ∧ ThK w1 w' cs' (toT R)) ∧ Below w.heap.size w w' := by
  obtain ⟨⟨A, B, N, C, M, D, rfl, h2, h3⟩, r1, r2, r3, r4, r5, r6, r7⟩ := h
  refine (of_any w R.k R.n R.t R.v r1 r2 A B N C M D R.o).mono ?_
  rintro e w' ⟨hret, hbel⟩
  refine ⟨?_, hbel⟩
  have h2' := h2.later hbel; have h3' := h3.later hbel
  unfold toT
  by_cases hk : R.k = 0
  · rw [if_pos hk] at hret ⊢
    exact ⟨_, hret, ⟨A, none, B, N, 0, M, C, 0, D, rfl, h2', GSl.nil, h3'⟩, r3, fun b hb => by simp at hb, r4, r1, zero_ok, zero_ok, ⟨r5, r6, by show _ ≤ (if R.o = true then (1 : Int) else 0); split <;> decide, by show (if R.o = true then (1 : Int) else 0) < _; split <;> decide, r7, by simp⟩⟩
  · rw [if_neg hk] at hret ⊢
    obtain ⟨p, rfl, hp⟩ := hret
    cases ho : R.o
    · rw [ho] at hp
      have hp' : p = .slice none 0 0 := by simpa using hp
      subst hp'
      exact ⟨_, rfl, ⟨none, A, B, 0, N, M, 0, C, D, rfl, GSl.nil, h2', h3'⟩, fun b hb => by simp at hb, r3, r4, zero_ok, r1, r2, ⟨by show (-9223372036854775808 : Int) ≤ 0; decide, by show (0 : Int) < 9223372036854775808; decide, r5, r6, by simp, r7⟩⟩
    · rw [ho] at hp
      have hp' : ∃ g, p = .slice (some ⟨g, 0, none⟩) 1 1 ∧ w.heap.size ≤ g ∧ Bk w' g 5 [.int .u8 0] := by simpa using hp
      obtain ⟨g, rfl, hg, hbk⟩ := hp'
      exact ⟨_, rfl, ⟨some ⟨g, 0, none⟩, A, B, 1, N, M, 1, C, D, rfl, .inr (hbk.own (Nat.zero_le _) (Nat.le_refl _) (by omega) rfl rfl), h2', h3'⟩, fun b hb => by simp at hb; omega, r3, r4, zero_ok, r1, r2, ⟨by show (-9223372036854775808 : Int) ≤ 0; decide, by show (0 : Int) < 9223372036854775808; decide, r5, r6, by simp, r7⟩⟩
end
/-- A seat's key. -/
def keyD (s : Int) : List Int := [10 + s % 4, 0, 0, 0, 0, 0, 0, 0]
theorem keyD_ok (s : Int) : DgOk (keyD s) := ⟨rfl, fun b hb => by simp [keyD] at hb; omega⟩
theorem key_ret {w : World} {g : Nat} {t : List Int} (ht : DgOk t) (h : Bk w g 29 (dl t)) (tmps : Array Value) (h2 : tmps.getD 2 undef = .pointer (some ⟨g, 0, none⟩)) :
    (results Try.f27 tmps).run Try.prog w = .ok (.agg (dl t).toArray) w := by
  have r1 : w.rangeAt g 0 (dl t) := Bk.range (pre := []) (post := []) (by simpa using h) rfl
  have l1 := run_loadVar_mid (P := Try.prog) w g 0 29 (dl t) _ r1 Try.underlying29 rfl (dg_sz ht)
  rw [Array.getD_eq_getD_getElem?] at h2
  simp [results, Try.results27, h2, asAddr, l1]
theorem build_key (x : Int) (w : World) : (Instr.build 29 #[(0, .int .u8 x)]).run Try.prog w = .ok (.agg (dl [x, 0, 0, 0, 0, 0, 0, 0]).toArray) w := by kernel_rfl
theorem wrap_u8' (z : Int) : IntKind.u8.wrap z = z % 256 := by simp [IntKind.wrap, IntKind.bits, IntKind.signed]
theorem key_any (w : World) (s : Int) : Calls Try.prog 27 #[.int .i64 s] w fun e w' => e = .returned (.agg (dl (keyD s)).toArray) ∧ Below w.heap.size w w' := by
  obtain ⟨w1, hw1⟩ : ∃ w1, w.alloc (.cells #[.int .u8 0, .int .u8 0, .int .u8 0, .int .u8 0, .int .u8 0, .int .u8 0, .int .u8 0, .int .u8 0] 29) = w1 := ⟨_, rfl⟩
  have hb1 : Below w.heap.size w w1 := hw1 ▸ below_new w _
  have kz : Bk w1 w.heap.size 29 ([] ++ (dl zeroD ++ [])) := hw1 ▸ Bk.new' w _ #[.int .u8 0, .int .u8 0, .int .u8 0, .int .u8 0, .int .u8 0, .int .u8 0, .int .u8 0, .int .u8 0] rfl
  have HW := Lib.hid hw1; have HB1 := Lib.hid hb1; have HZ1 := Lib.hid kz
  have e1 : [IntKind.u64.wrap (10 + (IntKind.u64.wrap s).tmod 4) % 256, 0, 0, 0, 0, 0, 0, 0] = keyD s := by
    rw [keyD]
    congr 1
    simp only [IntKind.wrap_u64]
    rw [Int.tmod_eq_emod_of_nonneg (by omega)]
    omega
  have HE := Lib.hid e1
  clear hw1 hb1 kz e1
  go_enter Try.func27, Try.ntmps27
  go_upto_region 1 with fail
  rw [HW.out]
  go_wp2_with (with_reducible refine stop_store 29 _ _ rfl ?_)
  refine StopD.go ?_
  refine wpList_store_part rfl 29 _ _ rfl w.heap.size 0 (.agg (dl [IntKind.u64.wrap (10 + (IntKind.u64.wrap s).tmod 4) % 256, 0, 0, 0, 0, 0, 0, 0]).toArray) (dl [IntKind.u64.wrap (10 + (IntKind.u64.wrap s).tmod 4) % 256, 0, 0, 0, 0, 0, 0, 0]) rfl rfl rfl 29 [] (dl zeroD) [] HZ1.out rfl rfl (by rw [HE.out]; exact dg_sz (keyD_ok s)) (dl_one _) ?_
  intro w9 hp
  have HZ9 : Hid (Bk w9 w.heap.size 29 (dl (keyD s))) := by show Bk _ _ _ _; rw [← HE.out]; have := hp.bk; simpa using this
  have HB9 := Lib.hid (below_only HB1.out hp.only HB1.out.size (Nat.le_refl _))
  clear hp
  go_wp2_with fail
  refine bodyPost_ret (key_ret (keyD_ok s) HZ9.out _ rfl) rfl ?_
  exact ⟨rfl, HB9.out⟩
end Go.Proofs.Ythibihjblodfmaa
