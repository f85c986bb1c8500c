/- A signed state, read off bytes: the program's closures. A signed state, read off bytes: the program's. -/
import Derived.Test.YthibihjblodfmaaS22
import Derived.Test.YthibihjblodfmaaS18
import Derived.Test.YthibihjblodfmaaQ11
/-! A signed state, read off bytes: the program's closures. -/
namespace Go.Proofs.Ythibihjblodfmaa
open Go.RowKit Go.Maps

/-- What the decoder knows: the reader, the error, the fields, how many signatures, the signatures. -/
structure Ds where
  rd : Rd
  e : Int
  n : Int
  t : List Int
  ps : List Int
  many : Int
  L : List (List Int)
/-- Where its boxes lie. -/
structure Bx where
  base : Nat
  g : Nat
  pr : Nat
  ps : Nat
  pn : Nat
  pe : Nat
structure Bx.Ok (b : Bx) : Prop where
  h1 : b.base ≤ b.g
  h2 : b.g < b.pr
  h3 : b.pr < b.ps
  h4 : b.ps < b.pn
  h5 : b.pn < b.pe
/-- The signed state in memory, what it holds its own. -/
def SgOwn (w : World) (base g : Nat) (n : Int) (t ps : List Int) (L : List (List Int)) : Prop :=
  ∃ (P Q : Option Addr) (c M d : Nat) (rs : List Pc), Bk w g 101 (sgC n t (.slice P ps.length c) (.slice Q M d)) ∧ w.ownsRow base 5 1 (.slice P ps.length c) ps.length (ps.map (.int .u8)) ∧ w.ownsRow base 23 1 (.slice Q M d) M (rs.map Pc.v) ∧ PcsOwn w base rs ∧ bsP rs = L
structure DecB (w : World) (b : Bx) (d : Ds) : Prop where
  ord : b.Ok
  kr : Bk w b.pr 129 [.pointer (some ⟨b.g, 0, none⟩)]
  ks : SgOwn w (b.pe + 1) b.ps d.n d.t d.ps d.L
  kn : Bk w b.pn 3 [.int .i64 d.many]
  ke : Bk w b.pe 27 [.int .i64 d.e]
  rd : RdAt w b.g b.g d.rd
  ok : DgOk d.t
theorem SgOwn.later {w w' : World} {base g : Nat} {n : Int} {t ps : List Int} {L : List (List Int)} (h : SgOwn w base g n t ps L) (hb : Below w.heap.size w w') : SgOwn w' base g n t ps L := by
  obtain ⟨P, Q, c, M, d, rs, h1, h2, h3, h4, h5⟩ := h
  exact ⟨P, Q, c, M, d, rs, h1.later hb, own_keep h2 hb, own_keep h3 hb, h4.later hb, h5⟩
theorem SgOwn.only {w w' : World} {base g q : Nat} {n : Int} {t ps : List Int} {L : List (List Int)} {ty : TypeId} {xs : List Value} (h : SgOwn w base g n t ps L) (hg : w.grownBy w' (some q)) (hk : Bk w q ty xs) (hq : g ≠ q) (h8 : 5 ≠ ty) (h9 : 23 ≠ ty) : SgOwn w' base g n t ps L := by
  obtain ⟨P, Q, c, M, d, rs, h1, h2, h3, h4, h5⟩ := h
  exact ⟨P, Q, c, M, d, rs, h1.grown hg (by intro h; injection h with h; omega), own_only h2 hg (own_bk_ne h2 hk h8), own_only h3 hg (own_bk_ne h3 hk h9), h4.grown hk h8 hg, h5⟩
theorem DecB.later {w w' : World} {b : Bx} {d : Ds} (h : DecB w b d) (hb : Below w.heap.size w w') : DecB w' b d :=
  ⟨h.ord, h.kr.later hb, h.ks.later hb, h.kn.later hb, h.ke.later hb, h.rd.later hb, h.ok⟩
theorem DecB.drewN {w : World} {b : Bx} {d : Ds} (h : DecB w b d) (q : Nat) : DecB (w.drewN q) b d := h.later (below_draws w _ q)
theorem DecB.turnE {w w' : World} {b : Bx} {d : Ds} {x : Int} (h : DecB w b d) (hg : w.grownBy w' (some b.pe)) (hk : Bk w' b.pe 27 [.int .i64 x]) : DecB w' b { d with e := x } := by
  obtain ⟨h1, h2, h3, h4, h5⟩ := h.ord
  exact ⟨h.ord, h.kr.grown hg (by intro h; injection h with h; omega), h.ks.only hg h.ke (by omega) (by decide) (by decide), h.kn.grown hg (by intro h; injection h with h; omega), hk, h.rd.only hg (by omega) (by omega), h.ok⟩
theorem DecB.turnN {w w' : World} {b : Bx} {d : Ds} {x : Int} (h : DecB w b d) (hg : w.grownBy w' (some b.pn)) (hk : Bk w' b.pn 3 [.int .i64 x]) : DecB w' b { d with many := x } := by
  obtain ⟨h1, h2, h3, h4, h5⟩ := h.ord
  exact ⟨h.ord, h.kr.grown hg (by intro h; injection h with h; omega), h.ks.only hg h.kn (by omega) (by decide) (by decide), hk, h.ke.grown hg (by intro h; injection h with h; omega), h.rd.only hg (by omega) (by omega), h.ok⟩
theorem rd_bk {w : World} {g L : Nat} {s : Rd} (h : RdAt w g L s) : ∃ xs, Bk w g 171 xs := by
  obtain ⟨A, n, c, bs, k, h1, _⟩ := h
  exact ⟨_, h1⟩
theorem DecB.turnR {w w' : World} {b : Bx} {d : Ds} {s : Rd} (h : DecB w b d) (hg : w.grownBy w' (some b.g)) (hr : RdAt w' b.g b.g s) : DecB w' b { d with rd := s } := by
  obtain ⟨h1, h2, h3, h4, h5⟩ := h.ord
  obtain ⟨xs, hx⟩ := rd_bk h.rd
  exact ⟨h.ord, h.kr.grown hg (by intro h; injection h with h; omega), h.ks.only hg hx (by omega) (by decide) (by decide), h.kn.grown hg (by intro h; injection h with h; omega), h.ke.grown hg (by intro h; injection h with h; omega), hr, h.ok⟩
theorem DecB.turnS {w w' : World} {b : Bx} {d : Ds} {n : Int} {t ps : List Int} {L : List (List Int)} (h : DecB w b d) (hg : w.grownBy w' (some b.ps)) (hk : SgOwn w' (b.pe + 1) b.ps n t ps L) (ht : DgOk t) : DecB w' b { d with n := n, t := t, ps := ps, L := L } := by
  obtain ⟨h1, h2, h3, h4, h5⟩ := h.ord
  exact ⟨h.ord, h.kr.grown hg (by intro h; injection h with h; omega), hk, h.kn.grown hg (by intro h; injection h with h; omega), h.ke.grown hg (by intro h; injection h with h; omega), h.rd.only hg (by omega) (by omega), ht⟩

theorem Bx.Ok.le {b : Bx} (h : b.Ok) : b.base ≤ b.g ∧ b.base ≤ b.pr ∧ b.base ≤ b.ps ∧ b.base ≤ b.pn ∧ b.base ≤ b.pe := by
  obtain ⟨h1, h2, h3, h4, h5⟩ := h
  omega
theorem DecB.base {w : World} {b : Bx} {d : Ds} (h : DecB w b d) : b.base ≤ w.heap.size := by
  have := h.ord.le; have := h.ke.lt; omega
theorem DecB.setE {w : World} {b : Bx} {d : Ds} (h : DecB w b d) (x : Int) : DecB (w.setCell ⟨b.pe, 0, none⟩ (.int .i64 x)) b { d with e := x } :=
  h.turnE (only_set (World.grownBy.refl w _) 0 _) (h.ke.set_ 0 (.int .i64 x))
theorem DecB.belowE {w w0 : World} {b : Bx} {d : Ds} (h : DecB w b d) (hb : Below b.base w0 w) (x : Int) : Below b.base w0 (w.setCell ⟨b.pe, 0, none⟩ (.int .i64 x)) :=
  below_only hb (only_set (World.grownBy.refl w _) 0 _) h.base h.ord.le.2.2.2.2
theorem RdAt.apart {w w' : World} {g L base size n : Nat} {s : Rd} {e : TypeId} {v : Value} {xs : List Value} (h : RdAt w g L s) (ho : w.ownsRow base e size v n xs) (hb : g < base) (hL : L ≤ base) (hg : w.grownBy w' v.ownBlock) : RdAt w' g L s := by
  rcases own_bk ho with ⟨rfl, _⟩ | ⟨q, cap, zs, rfl, hq, hk, _⟩
  · exact h.later ⟨hg.os, hg.tape, hg.output, hg.size, fun k hk => hg.block k hk (by simp [Value.ownBlock])⟩
  · exact h.only (q := q) hg (by omega) (by omega)
theorem bk_apart {w w' : World} {g base size n : Nat} {t e : TypeId} {v : Value} {xs ys : List Value} (h : Bk w g t ys) (ho : w.ownsRow base e size v n xs) (hb : g < base) (hg : w.grownBy w' v.ownBlock) : Bk w' g t ys := by
  rcases own_bk ho with ⟨rfl, _⟩ | ⟨q, cap, zs, rfl, hq, hk, _⟩
  · exact h.grown hg (by simp [Value.ownBlock])
  · exact h.grown hg (by simp [Value.ownBlock]; omega)
/-- What a closure leaves: whether it was formed, and the decoder. -/
def RetC (b : Bx) (p : Ds × Bool) (w : World) (e : Ending) (w' : World) : Prop := e = .returned (.bool p.2) ∧ DecB w' b p.1 ∧ Below b.base w w'
/-- One step: nothing once there is an error; the reader's error; else whether it was formed. -/
def errD (r : Int) (ok : Bool) : Int := if r = 0 then (if ok = true then 0 else 3) else r
def stepD (d : Ds) (p : Ds × Bool) : Ds := if d.e = 0 then { p.1 with e := errD p.1.rd.err p.2 } else d
def RetX (b : Bx) (d : Ds) (w : World) (e : Ending) (w' : World) : Prop := e = .returned (.tuple #[]) ∧ DecB w' b d ∧ Below b.base w w'
set_option maxRecDepth 20000 in
set_option maxHeartbeats 1000000 in
theorem next_any (i : Nat) (cap : Array Value) (hcf : ∀ w, (callFunc i cap).run Try.prog w = .ok (.enter i cap) w) (w : World) (b : Bx) (d : Ds) (h : DecB w b d) (p : Ds × Bool) (hp : d.e = 0 → p.1.e = 0) (hC : d.e = 0 → Calls Try.prog i cap w (RetC b p w)) :
    Calls Try.prog 103 #[.func (.func i) #[] cap, .pointer (some ⟨b.pe, 0, none⟩), .pointer (some ⟨b.pr, 0, none⟩)] w (RetX b (stepD d p) w) := by
  have HD := Lib.hid h
  have ce := one_cell h.ke
  by_cases he : d.e = 0
  · have hC' := Lib.hid (hC he)
    have hp := hp he
    rw [he] at ce
    obtain ⟨D, hD⟩ : ∃ D, stepD d p = D := ⟨_, rfl⟩
    have HDD := Lib.hid hD
    rw [hD]
    unfold stepD at hD
    rw [if_pos he] at hD
    have HDE : Hid ({ p.1 with e := errD p.1.rd.err p.2 } = D) := hD
    clear hC he h hD
    go_enter Try.func103, Try.ntmps103
    go_wp2_with fail
    refine hC'.out.mono ?_
    rintro e w1 ⟨rfl, hd, hb⟩
    have HD1 := Lib.hid hd
    have HB1 := Lib.hid hb
    have ce := one_cell hd.ke
    have cr := one_cell hd.kr
    clear hd hb
    have fe := HD1.out.ke.frozen 0
    go_wp2_with fail
    refine (rdErr_any w1 b.g p.1.rd HD1.out.rd).mono ?_
    rintro e w1' ⟨rfl, rfl⟩
    obtain ⟨q1, q2⟩ := p
    obtain ⟨r, hr⟩ : ∃ r, q1.rd.err = r := ⟨_, rfl⟩
    dsimp only at hr HDE HD1 hp ce ⊢
    rw [hr] at HDE ⊢
    clear hr
    by_cases hr0 : r = 0
    · subst hr0
      cases q2
      · go_wp2_with fail
        refine bodyPost_ret (results_none rfl _ _ _) rfl ?_
        exact ⟨rfl, by rw [← HDE.out]; exact (HD1.out.setE 0).setE 3, (HD1.out.setE 0).belowE (HD1.out.belowE HB1.out 0) 3⟩
      · go_wp2_with fail
        refine bodyPost_ret (results_none rfl _ _ _) rfl ?_
        exact ⟨rfl, by rw [← HDE.out]; exact HD1.out.setE 0, HD1.out.belowE HB1.out 0⟩
    · have hr1 : (r == 0) = false := by simpa using hr0
      have HE : Hid (errD r q2 = r) := by show _ = _; rw [errD, if_neg hr0]
      rw [HE.out] at HDE
      go_wp2_with fail
      refine bodyPost_ret (results_none rfl _ _ _) rfl ?_
      exact ⟨rfl, by rw [← HDE.out]; exact HD1.out.setE r, HD1.out.belowE HB1.out r⟩
  · obtain ⟨D, hD⟩ : ∃ D, stepD d p = D := ⟨_, rfl⟩
    rw [hD]
    unfold stepD at hD
    rw [if_neg he] at hD
    subst hD
    have he1 : (d.e != 0) = true := by simpa using he
    clear hC h he hp
    go_enter Try.func103, Try.ntmps103
    go_wp2_with fail
    refine bodyPost_ret (results_none rfl _ _ _) rfl ?_
    exact ⟨rfl, HD.out, Below.refl _ _⟩

def numD (d : Ds) : Ds × Bool := ({ d with rd := (numR d.rd 1099511627776).1, n := (numR d.rd 1099511627776).2 }, true)
def posD (d : Ds) : Ds × Bool := ({ d with rd := (someR d.rd 4096).1, ps := (someR d.rd 4096).2 }, true)
def manyD (d : Ds) : Ds × Bool := ({ d with rd := (numR d.rd 8).1, many := (numR d.rd 8).2 }, decide (2 ≤ (numR d.rd 8).2))
def sigD (d : Ds) : Ds × Bool := ({ d with rd := (someR d.rd 4096).1, L := d.L ++ [(someR d.rd 4096).2] }, true)
def tabD (d : Ds) : Ds × Bool := ({ d with rd := (someR d.rd 8).1, t := (someR d.rd 8).2 ++ d.t.drop (someR d.rd 8).2.length }, decide ((someR d.rd 8).2.length = 8))
theorem sg_preN {n : Int} {t : List Int} {p q : Value} : sgC n t p q = dl t ++ ([.int .i64 n] ++ [p, q]) := by simp [sgC, staC]
set_option maxRecDepth 20000 in
set_option maxHeartbeats 1000000 in
theorem dec3_any (w : World) (b : Bx) (d : Ds) (h : DecB w b d) :
    Calls Try.prog 106 #[.pointer (some ⟨b.pr, 0, none⟩), .pointer (some ⟨b.ps, 0, none⟩)] w (RetC b (numD d) w) := by
  have HD := Lib.hid h
  have cr := one_cell h.kr
  obtain ⟨x0, x1⟩ := num_rng h.rd.ok (most := 1099511627776) (by decide)
  obtain ⟨R, hR⟩ : ∃ R, numR d.rd 1099511627776 = R := ⟨_, rfl⟩
  have HDE : Hid (numD d = ({ d with rd := R.1, n := R.2 }, true)) := by show _ = _; rw [numD, hR]
  have HR := Lib.hid (rdNum_any w b.g d.rd h.rd 1099511627776)
  rw [hR] at HR x0 x1
  have hw : IntKind.i64.wrap R.2 = R.2 := IntWalk.i64_in _ (by omega)
  have HT8 : Hid ((dl d.t).length = 8) := by show _ = _; rw [dl_len, h.ok.len]
  rw [HDE.out]
  clear h hR x0 x1
  go_enter Try.func106, Try.ntmps106
  go_wp2_with fail
  refine HR.out.mono ?_
  rintro e w1 ⟨rfl, hr, hg⟩
  have HD1 := Lib.hid (HD.out.turnR hg hr)
  have HB1 := Lib.hid (below_only (Below.refl b.base w) hg HD.out.base HD.out.ord.le.1)
  clear hr hg
  obtain ⟨P, Q, c, M, dd, rs, h1, h2, h3, h4, h5⟩ := HD1.out.ks
  have K1 := Lib.hid h1; have K2 := Lib.hid h2; have K3 := Lib.hid h3; have K4 := Lib.hid h4; have K5 := Lib.hid h5
  clear h1 h2 h3 h4 h5
  go_wp2_with (with_reducible refine stop_store 3 _ _ rfl ?_)
  refine StopD.go ?_
  rw [sg_preN] at K1
  refine wpList_store_part rfl 3 _ _ rfl b.ps 8 (.int .i64 R.2) [.int .i64 R.2] rfl rfl rfl 101 (dl d.t) [.int .i64 d.n] [.slice P d.ps.length c, .slice Q M dd] K1.out HT8.out rfl (by kernel_rfl) (by simp [Value.oneCell']) ?_
  intro w2 hp
  have HS2 : Hid (SgOwn w2 (b.pe + 1) b.ps R.2 d.t d.ps d.L) := ⟨P, Q, c, M, dd, rs, by rw [sg_preN]; exact hp.bk, own_only K2.out hp.only (own_bk_ne K2.out K1.out (by decide)), own_only K3.out hp.only (own_bk_ne K3.out K1.out (by decide)), K4.out.grown K1.out (by decide) hp.only, K5.out⟩
  have HD2 := Lib.hid (HD1.out.turnS hp.only HS2.out HD1.out.ok)
  have HB2 := Lib.hid (below_only HB1.out hp.only HD1.out.base HD1.out.ord.le.2.2.1)
  clear hp
  go_wp2_with fail
  go_ret
  exact ⟨rfl, HD2.out, HB2.out⟩
set_option maxRecDepth 20000 in
set_option maxHeartbeats 1000000 in
theorem dec4_any (w : World) (b : Bx) (d : Ds) (h : DecB w b d) :
    Calls Try.prog 107 #[.pointer (some ⟨b.pr, 0, none⟩), .pointer (some ⟨b.ps, 0, none⟩)] w (RetC b (posD d) w) := by
  have HD := Lib.hid h
  have cr := one_cell h.kr
  obtain ⟨R, hR⟩ : ∃ R, someR d.rd 4096 = R := ⟨_, rfl⟩
  have HDE : Hid (posD d = ({ d with rd := R.1, ps := R.2 }, true)) := by show _ = _; rw [posD, hR]
  have HR := Lib.hid (rdBytes_any w b.g d.rd h.rd 4096 (by omega) (by omega))
  rw [hR] at HR
  have HT8 : Hid ((dl d.t ++ [Value.int .i64 d.n]).length = 9) := by show _ = _; simp [dl_len, h.ok.len]
  rw [HDE.out]
  clear h hR
  go_enter Try.func107, Try.ntmps107
  go_wp2_with fail
  refine HR.out.mono ?_
  rintro e w1 ⟨v, rfl, hown, hr, hg⟩
  obtain ⟨P1, c1, rfl⟩ := own_form hown
  have HD1 := Lib.hid (HD.out.turnR hg hr)
  have HB1 := Lib.hid (below_only (Below.refl b.base w) hg HD.out.base HD.out.ord.le.1)
  have HO1 := Lib.hid (own_base (base' := b.pe + 1) hown HD.out.ke.lt)
  clear hr hg hown
  obtain ⟨P, Q, c, M, dd, rs, h1, h2, h3, h4, h5⟩ := HD1.out.ks
  have K1 := Lib.hid h1; have K3 := Lib.hid h3; have K4 := Lib.hid h4; have K5 := Lib.hid h5
  clear h1 h2 h3 h4 h5
  go_wp2_with (with_reducible refine stop_store 23 _ _ rfl ?_)
  refine StopD.go ?_
  rw [sg_preP] at K1
  refine wpList_store_part rfl 23 _ _ rfl b.ps 9 (.slice P1 R.2.length c1) [.slice P1 R.2.length c1] rfl rfl rfl 101 (dl d.t ++ [.int .i64 d.n]) [.slice P d.ps.length c] [.slice Q M dd] K1.out HT8.out rfl (by kernel_rfl) (by simp [Value.oneCell']) ?_
  intro w2 hp
  have HS2 : Hid (SgOwn w2 (b.pe + 1) b.ps d.n d.t R.2 d.L) := ⟨P1, Q, c1, M, dd, rs, by rw [sg_preP]; exact hp.bk, own_only HO1.out hp.only (own_bk_ne HO1.out K1.out (by decide)), own_only K3.out hp.only (own_bk_ne K3.out K1.out (by decide)), K4.out.grown K1.out (by decide) hp.only, K5.out⟩
  have HD2 := Lib.hid (HD1.out.turnS hp.only HS2.out HD1.out.ok)
  have HB2 := Lib.hid (below_only HB1.out hp.only HD1.out.base HD1.out.ord.le.2.2.1)
  clear hp
  go_wp2_with fail
  go_ret
  exact ⟨rfl, HD2.out, HB2.out⟩
set_option maxRecDepth 20000 in
set_option maxHeartbeats 1000000 in
theorem dec5_any (w : World) (b : Bx) (d : Ds) (h : DecB w b d) :
    Calls Try.prog 108 #[.pointer (some ⟨b.pr, 0, none⟩), .pointer (some ⟨b.pn, 0, none⟩)] w (RetC b (manyD d) w) := by
  have HD := Lib.hid h
  have cr := one_cell h.kr
  obtain ⟨x0, x1⟩ := num_rng h.rd.ok (most := 8) (by decide)
  obtain ⟨R, hR⟩ : ∃ R, numR d.rd 8 = R := ⟨_, rfl⟩
  have HDE : Hid (manyD d = ({ d with rd := R.1, many := R.2 }, decide (2 ≤ R.2))) := by show _ = _; rw [manyD, hR]
  have HR := Lib.hid (rdNum_any w b.g d.rd h.rd 8)
  rw [hR] at HR x0 x1
  have hw : IntKind.i64.wrap R.2 = R.2 := IntWalk.i64_in _ (by omega)
  rw [HDE.out]
  clear h hR x0 x1
  go_enter Try.func108, Try.ntmps108
  go_wp2_with fail
  refine HR.out.mono ?_
  rintro e w1 ⟨rfl, hr, hg⟩
  have HD1 := Lib.hid (HD.out.turnR hg hr)
  have HB1 := Lib.hid (below_only (Below.refl b.base w) hg HD.out.base HD.out.ord.le.1)
  have ce := one_cell HD1.out.kn
  have fe := HD1.out.kn.frozen 0
  clear hr hg
  have HD2 := Lib.hid (HD1.out.turnN (only_set (World.grownBy.refl w1 _) 0 (.int .i64 R.2)) (HD1.out.kn.set_ 0 _))
  have HB2 := Lib.hid (below_only HB1.out (only_set (g := b.pn) (World.grownBy.refl w1 _) 0 (.int .i64 R.2)) HD1.out.base HD1.out.ord.le.2.2.2.1)
  go_wp2_with fail
  go_ret
  exact ⟨rfl, HD2.out, HB2.out⟩
set_option maxRecDepth 20000 in
set_option maxHeartbeats 2000000 in
theorem dec6_any (w : World) (b : Bx) (d : Ds) (h : DecB w b d) (hl : d.L.length ≤ 1000) :
    Calls Try.prog 109 #[.pointer (some ⟨b.ps, 0, none⟩), .pointer (some ⟨b.pr, 0, none⟩)] w (RetC b (sigD d) w) := by
  have HD := Lib.hid h
  obtain ⟨R, hR⟩ : ∃ R, someR d.rd 4096 = R := ⟨_, rfl⟩
  have HDE : Hid (sigD d = ({ d with rd := R.1, L := d.L ++ [R.2] }, true)) := by show _ = _; rw [sigD, hR]
  have HR := Lib.hid (rdBytes_any w.drew b.g d.rd (h.drewN 1).rd 4096 (by omega) (by omega))
  rw [hR] at HR
  have HT10 : Hid (∀ v : Value, (dl d.t ++ [Value.int .i64 d.n, v]).length = 10) := by intro v; simp [dl_len, h.ok.len]
  rw [HDE.out]
  obtain ⟨P, Q, c, M, dd, rs, h1, h2, h3, h4, h5⟩ := h.ks
  have hMl : M ≤ 1000 := by
    have e1 := h3.1; rw [List.length_map] at e1
    have : rs.length = d.L.length := by rw [← h5]; simp [bsP]
    omega
  have A1 := Lib.hid h1; have A2 := Lib.hid h2; have A3 := Lib.hid h3; have A4 := Lib.hid h4; have A5 := Lib.hid h5
  obtain ⟨iP, hPi, hPz, hPs, hPb⟩ := info_parts Try.infoSlB
  have HT := Lib.hid h.ok
  clear h hR h1 h2 h3 h4 h5 hl
  go_enter Try.func109, Try.ntmps109
  go_wp2_with fail
  refine wp_region_L [(5, fun w' => Bk w' b.ps 101 (sgC d.n d.t (.slice P d.ps.length c) (.slice Q M dd))), (3, fun w' => Bk w' b.pr 129 [.pointer (some ⟨b.g, 0, none⟩)])] (by kernel_rfl) ⟨fun _ => Bk.drew A1.out, fun _ => Bk.drew HD.out.kr, trivial⟩ (fun hHeld => ?_)
  refine wpAnyL_take0 (i := 0) (v := ?_) rfl (by kernel_rfl) (by kernel_rfl) (by kernel_rfl) (by rfl) (fun _ _ _ h => h) (Or.inl ⟨by rfl, ?_⟩) hHeld ?_
  rotate_left
  · intro w _
    go_simp
    try with_reducible rfl
  clear hHeld
  intro hHeld
  try simp only [Act.put, List.setIfInBounds_toArray, List.set_cons_zero, List.set_cons_succ, List.getElem_toArray, List.getElem_cons_zero, List.getElem_cons_succ]
  refine wpAnyL_take (i := 2) 1 rfl rfl (by kernel_rfl) (by kernel_rfl) (by kernel_rfl) (by kernel_rfl) (by kernel_rfl) (by rfl) (fun _ _ _ h => h) (v := ?_) (Or.inl ⟨by rfl, ?_⟩) hHeld ?_
  rotate_left
  · intro w hSw
    have hcell := (one_cell hSw)
    clear hSw
    go_simp
    try with_reducible rfl
  clear hHeld
  intro hHeld
  try simp only [Act.put, List.setIfInBounds_toArray, List.set_cons_zero, List.set_cons_succ, List.getElem_toArray, List.getElem_cons_zero, List.getElem_cons_succ]
  refine wpAnyL_take (i := 1) 0 rfl rfl (by kernel_rfl) (by kernel_rfl) (by kernel_rfl) (by kernel_rfl) (by kernel_rfl) (by rfl) (fun _ _ _ h => h) (v := ?_) (Or.inl ⟨by rfl, ?_⟩) hHeld ?_
  rotate_left
  · intro w hSw
    have hcell := (sg_mem HT.out hSw).c10
    clear hSw
    go_simp
    try with_reducible rfl
  clear hHeld
  intro hHeld
  try simp only [Act.put, List.setIfInBounds_toArray, List.set_cons_zero, List.set_cons_succ, List.getElem_toArray, List.getElem_cons_zero, List.getElem_cons_succ]
  refine wpAnyL_ready (rs := [3]) (by kernel_rfl) (by simp) ?_
  refine AllReadyL.cons rfl (fun K hK => ?_) AllReadyL.nil
  go_simp
  (go_at_call 72; refine HR.out.mono ?_; rintro e w1 ⟨v, rfl, hown, hr, hg⟩; obtain ⟨P1, c1, rfl⟩ := own_form hown; have HD0 := Lib.hid (HD.out.drewN 1); obtain ⟨xs, hx⟩ := rd_bk HD0.out.rd; have HX := Lib.hid hx; have HD1 := Lib.hid (HD0.out.turnR hg hr); have HB1 := Lib.hid (below_only (below_draws w b.base 1) hg HD0.out.base HD.out.ord.le.1); have HO1 := Lib.hid (own_base (base' := b.pe + 1) hown HD0.out.ke.lt); have B1 := Lib.hid (A1.out.drew.grown hg (by intro h; injection h with h; have := HD.out.ord; obtain ⟨_, _, _, _, _⟩ := this; omega)); have B3 := Lib.hid (own_only (own_keep A3.out (below_draws w _ 1)) hg (own_bk_ne (own_keep A3.out (below_draws w _ 1)) HX.out (by decide))); have B2 := Lib.hid (own_only (own_keep A2.out (below_draws w _ 1)) hg (own_bk_ne (own_keep A2.out (below_draws w _ 1)) HX.out (by decide))); have B4 := Lib.hid ((A4.out.later (below_draws w _ 1)).grown HX.out (by decide) hg); clear hx hown hr hg)
  refine hK.out _ _ (⟨fun _ => B1.out, fun h => dead h (by kernel_rfl), trivial⟩) (fun hHeld => ?_)
  clear hK K
  try simp only [Act.put, List.setIfInBounds_toArray, List.set_cons_zero, List.set_cons_succ, List.getElem_toArray, List.getElem_cons_zero, List.getElem_cons_succ]
  refine wpAnyL_ready (rs := [4]) (by kernel_rfl) (by simp) ?_
  refine AllReadyL.cons rfl (fun K hK => ?_) AllReadyL.nil
  rw [if_pos (by rfl)]
  refine wp_bslice _ 1 _ rfl #[(0, .slice P1 R.2.length c1)] (by simp [Act.eval]) _ _ (bs_p1 P1 R.2.length c1 _) ?_
  obtain ⟨w2, hw2⟩ : ∃ w2, w1.alloc (.cells ([Value.slice P1 R.2.length c1]).toArray 23) = w2 := ⟨_, rfl⟩
  obtain ⟨q7, hq7⟩ : ∃ q, w1.heap.size = q := ⟨_, rfl⟩
  have hbn : Below w1.heap.size w1 w2 := hw2 ▸ below_new w1 _
  have HN2 : Hid (Sl w2 w2.heap.size 1 (some ⟨q7, 0, none⟩) 1 [Value.slice P1 R.2.length c1]) := by
    rw [← hw2, ← hq7]; exact (Bk.new w1 _ _).sl1 rfl (by omega)
  rw [hw2, hq7]
  clear hw2 hq7
  have HD2 := Lib.hid (HD1.out.later hbn); have HB2 := Lib.hid (HB1.out.trans (hbn.mono HD1.out.base)); have HO2 := Lib.hid (own_keep HO1.out hbn)
  have C1 := Lib.hid (B1.out.later hbn); have C2 := Lib.hid (own_keep B2.out hbn); have C3 := Lib.hid (own_keep B3.out hbn); have C4 := Lib.hid (B4.out.later hbn)
  clear hbn
  refine hK.out _ _ ⟨fun _ => C1.out, fun h => dead h (by kernel_rfl), trivial⟩ (fun hHeld => ?_)
  clear hK K
  try simp only [Act.put, List.setIfInBounds_toArray, List.set_cons_zero, List.set_cons_succ, List.getElem_toArray, List.getElem_cons_zero, List.getElem_cons_succ]
  refine wpAnyL_ready (rs := [5]) (by kernel_rfl) (by simp) ?_
  refine AllReadyL.cons rfl (fun K hK => ?_) AllReadyL.nil
  rw [if_pos (by rfl)]
  refine wp_app _ (.tmp 4) (.tmp 7) 90 rfl (b.pe + 1) 23 iP (.slice none 0 0) 1 24 Try.underlying90 hPi hPz hPs hPb rfl (by decide) (.slice Q M dd) M (rs.map Pc.v) rfl C3.out _ _ 1 1 [Value.slice P1 R.2.length c1] rfl HN2.out (by simp [Value.oneCell']) (by unfold maxLen; omega) (by omega) HD2.out.ke.lt ?_
  intro v8 w3 hown hg hat
  obtain ⟨Q8, d8, rfl⟩ := own_form hown
  obtain ⟨np, hnp⟩ : ∃ np : Pc, np = ⟨P1, R.2.length, c1, R.2⟩ := ⟨_, rfl⟩
  have E3 : Hid (w3.ownsRow (b.pe + 1) 23 1 (.slice Q8 (M + 1) d8) (M + 1) ((rs ++ [np]).map Pc.v)) := by show World.ownsRow _ _ _ _ _ _ _; rw [List.map_append, hnp]; exact hown
  have E4 : Hid (PcsOwn w3 (b.pe + 1) (rs ++ [np])) := (C4.out.apart C3.out (by decide) hg).snoc (p := np) (by rw [hnp]; exact own_apart HO2.out C3.out (by decide) hg)
  have E2 := Lib.hid (own_apart C2.out C3.out (by decide) hg)
  have E1 := Lib.hid (bk_apart C1.out C3.out (by have := HD.out.ord.h4; have := HD.out.ord.h5; omega) hg)
  have F1 := Lib.hid (bk_apart HD2.out.kr C3.out (by have := HD.out.ord.h3; have := HD.out.ord.h4; have := HD.out.ord.h5; omega) hg)
  have F2 := Lib.hid (bk_apart HD2.out.kn C3.out (by have := HD.out.ord.h5; omega) hg)
  have F3 := Lib.hid (bk_apart HD2.out.ke C3.out (by omega) hg)
  have F4 := Lib.hid (HD2.out.rd.apart C3.out (by obtain ⟨_, _, _, _, _⟩ := HD.out.ord; omega) (by obtain ⟨_, _, _, _, _⟩ := HD.out.ord; omega) hg)
  have HB3 := Lib.hid (HB2.out.grown hg HD2.out.base (fun k hk => by have := (C3.out.lt k hk).1; have := HD.out.ord.le; omega))
  have HSZ : Hid (b.base ≤ w3.heap.size) := Nat.le_trans HD2.out.base hg.size
  have HL8 : Hid (bsP (rs ++ [np]) = d.L ++ [R.2]) := by show _ = _; rw [hnp, ← A5.out]; simp [bsP]
  refine hK.out _ _ ⟨fun h => dead h (by kernel_rfl), fun h => dead h (by kernel_rfl), trivial⟩ (fun hHeld => ?_)
  clear hK K hown hg hat hnp
  try simp only [Act.put, List.setIfInBounds_toArray, List.set_cons_zero, List.set_cons_succ, List.getElem_toArray, List.getElem_cons_zero, List.getElem_cons_succ]
  refine wpAnyL_take0 (i := 6) (v := ?_) rfl (by kernel_rfl) (by kernel_rfl) (by kernel_rfl) (by rfl) (fun _ _ _ h => h) (Or.inl ⟨by rfl, ?_⟩) hHeld ?_
  rotate_left
  · intro w _
    go_simp
    try with_reducible rfl
  clear hHeld
  intro hHeld
  try simp only [Act.put, List.setIfInBounds_toArray, List.set_cons_zero, List.set_cons_succ, List.getElem_toArray, List.getElem_cons_zero, List.getElem_cons_succ]
  rw [sg_preQ] at E1
  refine wpAnyL_ready (rs := [7]) (by kernel_rfl) (by simp) ?_
  refine AllReadyL.cons rfl (fun K hK => ?_) AllReadyL.nil
  rw [if_pos (by rfl)]
  refine wp_store_part _ _ _ rfl b.ps 10 _ ([.slice Q8 (M + 1) d8]) rfl rfl rfl _ (dl d.t ++ [.int .i64 d.n, .slice P d.ps.length c]) ([.slice Q M dd]) ([]) E1.out (HT10.out _) rfl (by kernel_rfl) (by simp [Value.oneCell']) ?_
  intro w4 hp
  refine hK.out _ _ ⟨fun h => dead h (by kernel_rfl), fun h => dead h (by kernel_rfl), trivial⟩ (fun hHeld => ?_)
  clear hK K
  try simp only [Act.put, List.setIfInBounds_toArray, List.set_cons_zero, List.set_cons_succ, List.getElem_toArray, List.getElem_cons_zero, List.getElem_cons_succ]
  refine wpAnyL_done (by kernel_rfl) ?_ _
  have HS4 : Hid (SgOwn w4 (b.pe + 1) b.ps d.n d.t d.ps (d.L ++ [R.2])) := ⟨P, Q8, c, M + 1, d8, rs ++ [np], by rw [sg_preQ]; exact hp.bk, own_only E2.out hp.only (own_bk_ne E2.out E1.out (by decide)), own_only E3.out hp.only (own_bk_ne E3.out E1.out (by decide)), E4.out.grown E1.out (by decide) hp.only, HL8.out⟩
  have HD4 : Hid (DecB w4 b { d with rd := R.1, L := d.L ++ [R.2] }) := by
    obtain ⟨o1, o2, o3, o4, o5⟩ := HD.out.ord
    exact ⟨HD.out.ord, F1.out.grown hp.only (by intro h; injection h with h; omega), HS4.out, F2.out.grown hp.only (by intro h; injection h with h; omega), F3.out.grown hp.only (by intro h; injection h with h; omega), F4.out.only hp.only (by omega) (by omega), HT.out⟩
  have HB4 := Lib.hid (below_only HB3.out hp.only HSZ.out HD.out.ord.le.2.2.1)
  clear hHeld hp
  go_wp2_with fail
  go_ret
  exact ⟨rfl, HD4.out, HB4.out⟩
/-- copy into a block that is known whole; the new world a letter. -/
theorem wp_copy_bk {P : Program} {o : Oper} {a : Act} {w : World} {K : Act → World → Prop} {Q : Exit → Act → World → Prop} (d s : Operand) (dT sT : TypeId)
    (ho : o.op = .call { callee := .builtin .copy, args := #[d, s], argTypes := #[dT, sT] }) (elem : TypeId) (hu : P.underlying dT = some (.slice elem)) (hsz : (P.info? elem).map (·.size) = some 1)
    (g off : Nat) (sp : Option Addr) (dLen dCap sLen sCap : Nat) (hd : a.eval d = .slice (some ⟨g, off, none⟩) dLen dCap) (hs : a.eval s = .slice sp sLen sCap)
    (cur : List Value) (t : TypeId) (hg : Bk w g t cur) (cs : List Value) (hn : cs.length = Nat.min sLen dLen)
    (hpos : 0 < cs.length → ∃ ad, sp = some ad ∧ ∀ (j : Nat) (v : Value), cs[j]? = some v → w.cell? (ad.add j) = some v)
    (hfit : off + cs.length ≤ cur.length) (h1 : ∀ v ∈ cs, v.oneCell' = true)
    (h : ∀ w', Bk w' g t (splice cur off cs) → w.grownBy w' (some g) → K (a.put o.dst (goInt cs.length)) w') : o.wp P a w K Q := by
  by_cases h0 : cs.length = 0
  · obtain rfl : cs = [] := List.eq_nil_of_length_eq_zero h0
    have hrun := run_copy_none (P := P) w dT sT o.type elem (some ⟨g, off, none⟩) sp dLen dCap sLen sCap hu hsz (by simpa using hn.symm)
    unfold Oper.wp
    simp [execOp, ho, resolve, invoke, builtin, hd, hs, hrun, Result.andThen]
    exact h w (by simpa [splice] using hg) (World.grownBy.refl w _)
  · obtain ⟨ad, rfl, hsrc⟩ := hpos (by omega)
    have hrun := run_copy_row (P := P) w dT sT o.type elem g off dLen dCap ad sLen sCap cur.toArray t cs hu hsz hg hn hsrc (by simpa using hfit) h1
    unfold Oper.wp
    simp [execOp, ho, resolve, invoke, builtin, hd, hs, hrun, Result.andThen]
    refine h _ ?_ ?_
    · show _ = _
      simpa [splice] using setRow_heap w g _ _ t _ hg
    · exact ⟨rfl, rfl, rfl, by simp [World.setRow], fun k hk hne => setRow_other w g k _ (by intro e; subst e; exact hne rfl)⟩
theorem some_len {s : Rd} {most : Int} : (someR s most).2.length ≤ most.toNat := by
  unfold someR
  split
  · split
    · split
      · split
        · rename_i h3 _; simp only [List.length_take]; omega
        · simp
      · simp
    · simp
  · simp
theorem sg_splice {n : Int} {t x : List Int} {p q : Value} (ht : t.length = 8) (hx : x.length ≤ 8) : splice (sgC n t p q) 0 (dl x) = sgC n (x ++ t.drop x.length) p q := by
  have e : (sgC n t p q).drop (dl x).length = (dl (t.drop x.length)) ++ ([.int .i64 n, p] ++ [q]) := by
    rw [sgC, staC, dl_len, List.append_assoc, List.drop_append_of_le_length (by rw [dl_len]; omega), dl, dl, List.map_drop]
  rw [splice, Nat.zero_add, e]
  simp [sgC, staC, dl]
set_option maxRecDepth 20000 in
set_option maxHeartbeats 2000000 in
theorem dec2_any (w : World) (b : Bx) (d : Ds) (h : DecB w b d) :
    Calls Try.prog 105 #[.pointer (some ⟨b.ps, 0, none⟩), .pointer (some ⟨b.pr, 0, none⟩)] w (RetC b (tabD d) w) := by
  have HD := Lib.hid h
  obtain ⟨R, hR⟩ : ∃ R, someR d.rd 8 = R := ⟨_, rfl⟩
  have HRL : Hid (R.2.length ≤ 8) := by have := some_len (s := d.rd) (most := 8); rw [hR] at this; exact this
  have HRO : Hid (ByOk R.2) := by have := some_ok (m := 8) h.rd.ok; rw [hR] at this; exact this
  have HDE : Hid (tabD d = ({ d with rd := R.1, t := R.2 ++ d.t.drop R.2.length }, decide (R.2.length = 8))) := by show _ = _; rw [tabD, hR]
  have HR := Lib.hid (rdBytes_any w.drew b.g d.rd (h.drewN 1).rd 8 (by omega) (by omega))
  rw [hR] at HR
  rw [HDE.out]
  have HT := Lib.hid h.ok
  have HTN : Hid (DgOk (R.2 ++ d.t.drop R.2.length)) := by
    refine ⟨?_, ?_⟩
    · have := HRL.out; have := HT.out.len; simp; omega
    · intro x hx
      rcases List.mem_append.1 hx with hx | hx
      · exact HRO.out x hx
      · exact HT.out.byt x (List.mem_of_mem_drop hx)
  obtain ⟨rl, hrl⟩ : ∃ n, R.2.length = n := ⟨_, rfl⟩
  have HRN := Lib.hid hrl
  clear h hR
  go_enter Try.func105, Try.ntmps105
  go_wp2_with fail
  refine wp_region_held_drew (S := fun w' => Bk w' b.pr 129 [.pointer (some ⟨b.g, 0, none⟩)]) (by kernel_rfl) (Bk.drew HD.out.kr) (fun hHeld => ?_)
  refine wpAnyH_take (i := 0) (v := ?_) rfl (by kernel_rfl) (by kernel_rfl) (by kernel_rfl) (fun _ _ _ h => h) (Or.inl ⟨by rfl, ?_⟩) (by assumption) ?_
  rotate_left
  · intro w hSw
    (try dsimp only at hSw)
    go_simp
    try with_reducible rfl
  try simp only [Act.put, List.setIfInBounds_toArray, List.set_cons_zero, List.set_cons_succ, List.getElem_toArray, List.getElem_cons_zero, List.getElem_cons_succ]
  refine wpAnyH_take (i := 3) (v := ?_) rfl (by kernel_rfl) (by kernel_rfl) (by kernel_rfl) (fun _ _ _ h => h) (Or.inl ⟨by rfl, ?_⟩) (by assumption) ?_
  rotate_left
  · intro w hSw
    have hcell := (one_cell hSw)
    clear hSw
    go_simp
    try with_reducible rfl
  try simp only [Act.put, List.setIfInBounds_toArray, List.set_cons_zero, List.set_cons_succ, List.getElem_toArray, List.getElem_cons_zero, List.getElem_cons_succ]
  refine wpAnyH_take (i := 1) (v := ?_) rfl (by kernel_rfl) (by kernel_rfl) (by kernel_rfl) (fun _ _ _ h => h) (Or.inl ⟨by rfl, ?_⟩) (by assumption) ?_
  rotate_left
  · intro w hSw
    (try dsimp only at hSw)
    go_simp
    try with_reducible rfl
  try simp only [Act.put, List.setIfInBounds_toArray, List.set_cons_zero, List.set_cons_succ, List.getElem_toArray, List.getElem_cons_zero, List.getElem_cons_succ]
  refine wpAnyH_take (i := 2) (v := ?_) rfl (by kernel_rfl) (by kernel_rfl) (by kernel_rfl) (fun _ _ _ h => h) (Or.inl ⟨by rfl, ?_⟩) (by assumption) ?_
  rotate_left
  · intro w hSw
    (try dsimp only at hSw)
    go_simp
    try with_reducible rfl
  try simp only [Act.put, List.setIfInBounds_toArray, List.set_cons_zero, List.set_cons_succ, List.getElem_toArray, List.getElem_cons_zero, List.getElem_cons_succ]
  refine wpAnyH_ready (rs := [4]) (by kernel_rfl) (by simp) ?_
  refine AllReadyH.cons rfl (fun K hK => ?_) AllReadyH.nil
  go_simp
  (go_at_call 72; refine HR.out.mono ?_; rintro e w1 ⟨v, rfl, hown, hr, hg⟩; obtain ⟨P1, c1, rfl⟩ := own_form hown; have HD0 := Lib.hid (HD.out.drewN 1); have HD1 := Lib.hid (HD0.out.turnR hg hr); have HB1 := Lib.hid (below_only (below_draws w b.base 1) hg HD0.out.base HD.out.ord.le.1); have HO1 := Lib.hid (Sl.of_own hown); clear hown hr hg)
  refine hK.out _ _ (HD1.out.kr) (fun hHeld => ?_)
  clear hK K
  try simp only [Act.put, List.setIfInBounds_toArray, List.set_cons_zero, List.set_cons_succ, List.getElem_toArray, List.getElem_cons_zero, List.getElem_cons_succ]
  obtain ⟨P, Q, c, M, dd, rs, h1, h2, h3, h4, h5⟩ := HD1.out.ks
  have A1 := Lib.hid h1; have A2 := Lib.hid h2; have A3 := Lib.hid h3; have A4 := Lib.hid h4; have A5 := Lib.hid h5
  clear h1 h2 h3 h4 h5
  refine wpAnyH_ready (rs := [5]) (by kernel_rfl) (by simp) ?_
  refine AllReadyH.cons rfl (fun K hK => ?_) AllReadyH.nil
  rw [if_pos (by rfl)]
  refine wp_copy_bk (.tmp 5) (.tmp 7) 23 23 rfl 5 Try.underlying23 (by kernel_rfl) b.ps 0 P1 8 8 R.2.length c1 rfl rfl _ 101 A1.out (dl R.2) (by rw [dl_len]; exact (Nat.min_eq_left HRL.out).symm) (fun hp => by obtain ⟨ad, e, _, hc⟩ := HO1.out.mem (by rw [dl_len] at hp; exact hp); exact ⟨ad, e, hc⟩) (by rw [dl_len, sgC_len HT.out]; have := HRL.out; omega) (dl_one' _) ?_
  intro w2 hk2 hg2
  rw [sg_splice HT.out.len HRL.out] at hk2
  have HS2 : Hid (SgOwn w2 (b.pe + 1) b.ps d.n (R.2 ++ d.t.drop R.2.length) d.ps d.L) := ⟨P, Q, c, M, dd, rs, hk2, own_only A2.out hg2 (own_bk_ne A2.out A1.out (by decide)), own_only A3.out hg2 (own_bk_ne A3.out A1.out (by decide)), A4.out.grown A1.out (by decide) hg2, A5.out⟩
  have HD2 := Lib.hid (HD1.out.turnS hg2 HS2.out HTN.out)
  have HB2 := Lib.hid (below_only HB1.out hg2 HD1.out.base HD1.out.ord.le.2.2.1)
  refine hK.out _ _ HD2.out.kr (fun hHeld => ?_)
  clear hK K hk2 hg2
  try simp only [Act.put, List.setIfInBounds_toArray, List.set_cons_zero, List.set_cons_succ, List.getElem_toArray, List.getElem_cons_zero, List.getElem_cons_succ]
  rw [dl_len, HRN.out, show goInt ((rl : Nat) : Int) = .int .i64 (rl : Int) from rfl]
  have HBB : Hid (((rl : Int) == 8) = decide (R.2.length = 8)) := by show _ = _; rw [HRN.out]; by_cases h : rl = 8 <;> simp [h] <;> omega
  obtain ⟨bb, hbb⟩ : ∃ bb, ((rl : Int) == 8) = bb := ⟨_, rfl⟩
  rw [hbb] at HBB
  clear hrl
  refine wpAnyH_take (i := 6) (v := ?_) rfl (by kernel_rfl) (by kernel_rfl) (by kernel_rfl) (fun _ _ _ h => h) (Or.inl ⟨by rfl, ?_⟩) (by assumption) ?_
  rotate_left
  · intro w hSw
    (try dsimp only at hSw)
    go_simp
    try with_reducible rfl
  try simp only [Act.put, List.setIfInBounds_toArray, List.set_cons_zero, List.set_cons_succ, List.getElem_toArray, List.getElem_cons_zero, List.getElem_cons_succ]
  refine wpAnyH_take (i := 7) (v := ?_) rfl (by kernel_rfl) (by kernel_rfl) (by kernel_rfl) (fun _ _ _ h => h) (Or.inl ⟨by rfl, ?_⟩) (by assumption) ?_
  rotate_left
  · intro w hSw
    (try dsimp only at hSw)
    go_simp
    try with_reducible rfl
  try simp only [Act.put, List.setIfInBounds_toArray, List.set_cons_zero, List.set_cons_succ, List.getElem_toArray, List.getElem_cons_zero, List.getElem_cons_succ]
  refine wpAnyH_done (by kernel_rfl) ?_ _
  clear hHeld
  go_wp2_with fail
  go_ret
  exact ⟨by rw [← HBB.out]; rfl, HD2.out, HB2.out⟩
end Go.Proofs.Ythibihjblodfmaa

/-! A signed state, read off bytes: the program's. -/
namespace Go.Proofs.Ythibihjblodfmaa
open Go.RowKit Go.Maps

def d0D (bs : List Int) : Ds := ⟨⟨bs, 0⟩, 0, 0, zeroD, [], 0, []⟩
def d1D (bs : List Int) : Ds := stepD (d0D bs) (tabD (d0D bs))
def d2D (bs : List Int) : Ds := stepD (d1D bs) (numD (d1D bs))
def d3D (bs : List Int) : Ds := stepD (d2D bs) (posD (d2D bs))
def d4D (bs : List Int) : Ds := stepD (d3D bs) (manyD (d3D bs))
def itD : Nat → Ds → Ds
  | 0, d => d
  | k + 1, d => stepD (itD k d) (sigD (itD k d))
def d5D (bs : List Int) : Ds := itD (d4D bs).many.toNat (d4D bs)
def endD (d : Ds) : Int := if d.e = 0 then endR d.rd else d.e
def decS (bs : List Int) : Jn := if endD (d5D bs) = 0 then ⟨(d5D bs).t, (d5D bs).n, (d5D bs).ps, (d5D bs).L, 0⟩ else ⟨zeroD, 0, [], [], endD (d5D bs)⟩
theorem step_e {d : Ds} {p : Ds × Bool} (hp : p.1.e = d.e) : d.e = 0 → p.1.e = 0 := fun h => hp.trans h
theorem itD_len (d : Ds) : ∀ k, (itD k d).L.length ≤ d.L.length + k
  | 0 => Nat.le_refl _
  | k + 1 => by
    have := itD_len d k
    show (stepD _ _).L.length ≤ _
    unfold stepD
    split
    · show ((itD k d).L ++ [_]).length ≤ _
      simp; omega
    · omega
theorem dec_sret {w : World} {g : Nat} {n e : Int} {t : List Int} {p q : Value} (ht : DgOk t) (h : Bk w g 101 (sgC n t p q)) (tmps : Array Value) (h2 : tmps.getD 2 undef = .pointer (some ⟨g, 0, none⟩)) (h3 : tmps.getD 3 undef = .int .i64 e) :
    (results Try.f57 tmps).run Try.prog w = .ok (.tuple #[.agg (sgC n t p q).toArray, .int .i64 e]) w := by
  have r1 : w.rangeAt g 0 (sgC n t p q) := Bk.range (pre := []) (post := []) (by simpa using h) rfl
  have l1 := run_loadVar_mid (P := Try.prog) w g 0 101 (sgC n t p q) _ r1 Try.underlying101 rfl (sg_info ht)
  rw [Array.getD_eq_getD_getElem?] at h2 h3
  simp [results, Try.results57, h2, h3, asAddr, l1]
theorem some_rest {s : Rd} {most : Int} (h : ByOk s.rest) : ByOk (someR s most).1.rest := by
  unfold someR
  split
  · split
    · split
      · split
        · exact (h.drop _).drop _
        · exact h
      · exact h
    · exact h
  · exact h
theorem num_rest {s : Rd} {most : Int} (h : ByOk s.rest) : ByOk (numR s most).1.rest := by
  unfold numR
  split
  · split
    · split
      · exact h.drop _
      · exact h
    · exact h
  · exact h
theorem step_ok {d : Ds} {p : Ds × Bool} (h : ByOk d.rd.rest) (hp : ByOk p.1.rd.rest) : ByOk (stepD d p).rd.rest := by
  unfold stepD; split
  · exact hp
  · exact h
theorem step_L {d : Ds} {p : Ds × Bool} (h : d.L = []) (hp : p.1.L = []) : (stepD d p).L = [] := by
  unfold stepD; split
  · exact hp
  · exact h
theorem step_m {d : Ds} {p : Ds × Bool} (h : d.many = 0) (hp : p.1.many = 0) : (stepD d p).many = 0 := by
  unfold stepD; split
  · exact hp
  · exact h
/-- How many signatures there are at most. -/
theorem many_rng (bs : List Int) (hb : ByOk bs) : 0 ≤ (d4D bs).many ∧ (d4D bs).many ≤ 8 ∧ (d4D bs).L = [] := by
  have b0 : ByOk (d0D bs).rd.rest := hb
  have b1 := step_ok b0 (p := tabD (d0D bs)) (some_rest b0)
  have b2 := step_ok b1 (p := numD (d1D bs)) (num_rest b1)
  have b3 := step_ok b2 (p := posD (d2D bs)) (some_rest b2)
  have l1 : (d1D bs).L = [] := step_L rfl (p := tabD (d0D bs)) rfl
  have l2 : (d2D bs).L = [] := step_L l1 (p := numD (d1D bs)) l1
  have l3 : (d3D bs).L = [] := step_L l2 (p := posD (d2D bs)) l2
  have m1 : (d1D bs).many = 0 := step_m rfl (p := tabD (d0D bs)) rfl
  have m2 : (d2D bs).many = 0 := step_m m1 (p := numD (d1D bs)) m1
  have m3 : (d3D bs).many = 0 := step_m m2 (p := posD (d2D bs)) m2
  refine ⟨?_, ?_, step_L l3 (p := manyD (d3D bs)) l3⟩
  · show 0 ≤ (stepD _ _).many
    unfold stepD
    split
    · exact (num_rng b3 (most := 8) (by decide)).1
    · omega
  · show (stepD _ _).many ≤ 8
    unfold stepD
    split
    · exact (num_rng b3 (most := 8) (by decide)).2
    · omega
set_option maxRecDepth 20000 in
set_option maxHeartbeats 4000000 in
theorem stDec_any (w : World) (A : Option Addr) (n c : Nat) (bs : List Int) (hbo : ByOk bs) (hs : Sl w w.heap.size 1 A n (bs.map (.int .u8))) (hn : n ≤ 1073741824) :
    Calls Try.prog 57 #[.slice A n c] w (RetJ (decS bs) w) := by
  obtain ⟨w1, hw1⟩ : ∃ w1, w.alloc (.cells #[.int .u8 0, .int .u8 0, .int .u8 0, .int .u8 0, .int .u8 0, .int .u8 0, .int .u8 0, .int .u8 0, .int .i64 0, .slice none 0 0, .slice none 0 0] 101) = w1 := ⟨_, rfl⟩
  have hb1 : Below w.heap.size w w1 := hw1 ▸ below_new w _
  have kz : Bk w1 w.heap.size 101 (sgC 0 zeroD (.slice none 0 0) (.slice none 0 0)) := hw1 ▸ Bk.new' w _ _ rfl
  have HW := Lib.hid hw1; have HBB1 := Lib.hid hb1; have HZ1 := Lib.hid kz
  have HNR := Lib.hid (newReader_any w1 A n c bs hbo (hs.later hb1) hn)
  have HMR := Lib.hid (many_rng bs hbo)
  clear hw1 hb1 kz hs
  go_enter Try.func57, Try.ntmps57
  go_upto_region 1 with fail
  rw [HW.out]
  go_wp2_with fail
  refine HNR.out.mono ?_
  rintro e w2 ⟨⟨g, rfl, hg, hr⟩, hbn⟩
  have HR2 := Lib.hid hr; have HG2 := Lib.hid hg
  have HBB2 := Lib.hid (below_then HBB1.out hbn)
  have HZ2 := Lib.hid (HZ1.out.later hbn)
  clear hbn
  clear hr hg
  go_wp2_with fail
  have hn3 : Below w2.heap.size w2 ((((w2.alloc (.cells #[.pointer (some ⟨g, 0, none⟩)] 129)).alloc (.cells #[.int .u8 0, .int .u8 0, .int .u8 0, .int .u8 0, .int .u8 0, .int .u8 0, .int .u8 0, .int .u8 0, .int .i64 0, .slice none 0 0, .slice none 0 0] 101)).alloc (.cells #[.int .i64 0] 3)).alloc (.cells #[.int .i64 0] 27)) := (((below_new w2 _).alloc (by simp) _).alloc (by simp <;> omega) _).alloc (by simp <;> omega) _
  obtain ⟨p, hp⟩ : ∃ p, w2.heap.size = p := ⟨_, rfl⟩
  obtain ⟨w3, hw3⟩ : ∃ w3, ((((w2.alloc (.cells #[.pointer (some ⟨g, 0, none⟩)] 129)).alloc (.cells #[.int .u8 0, .int .u8 0, .int .u8 0, .int .u8 0, .int .u8 0, .int .u8 0, .int .u8 0, .int .u8 0, .int .i64 0, .slice none 0 0, .slice none 0 0] 101)).alloc (.cells #[.int .i64 0] 3)).alloc (.cells #[.int .i64 0] 27)) = w3 := ⟨_, rfl⟩
  have HD3 : Hid (DecB w3 ⟨w.heap.size + 1, g, p, p + 1, p + 1 + 1, p + 1 + 1 + 1⟩ (d0D bs)) := by
    have hgp : g < p := hp ▸ HR2.out.lt
    have hwg : w1.heap.size = w.heap.size + 1 := by rw [← HW.out]; simp
    have hG := HG2.out
    refine ⟨⟨show w.heap.size + 1 ≤ g by omega, show g < p from hgp, show p < p + 1 by omega, show p + 1 < p + 1 + 1 by omega, show p + 1 + 1 < p + 1 + 1 + 1 by omega⟩, ?_, ?_, ?_, ?_, ?_, zero_ok⟩
    · rw [← hw3]; exact (((Bk.at_ w2 _ #[.pointer (some ⟨g, 0, none⟩)] hp rfl).alloc _).alloc _).alloc _
    · refine ⟨none, none, 0, 0, 0, [], ?_, World.ownsRow_nil _ _ _ _, World.ownsRow_nil _ _ _ _, PcsOwn.nil_ _ _, rfl⟩
      rw [← hw3]; exact ((Bk.at_ _ _ _ (by simp [hp]) rfl).alloc _).alloc _
    · rw [← hw3]; exact (Bk.at_ _ _ #[.int .i64 0] (by simp [hp]) rfl).alloc _
    · rw [← hw3]; exact Bk.at_ _ _ #[.int .i64 0] (by simp [hp]) rfl
    · rw [← hw3]; exact HR2.out.later (hn3)
  have hbn : Below w2.heap.size w2 w3 := hw3 ▸ hn3
  rw [hp, hw3]
  have HBB3 := Lib.hid (below_then HBB2.out hbn)
  have HZ3 := Lib.hid (HZ2.out.later hbn)
  clear hbn
  clear hn3 hw3 hp
  have hcf : ∀ (i : Nat), (i = 105 ∨ i = 106 ∨ i = 107 ∨ i = 108 ∨ i = 109) → ∀ cap w, (callFunc i cap).run Try.prog w = .ok (.enter i cap) w := by
    rintro i (rfl | rfl | rfl | rfl | rfl) cap w <;> kernel_rfl
  have HCF := Lib.hid hcf
  clear hcf
  have HPW : Hid (w.heap.size < p) := by obtain ⟨h1, h2, _⟩ := HD3.out.ord; show w.heap.size < p; have h1' : w.heap.size + 1 ≤ g := h1; have h2' : g < p := h2; omega
  refine (next_any 105 _ (HCF.out _ (by simp) _) w3 _ (d0D bs) HD3.out (tabD (d0D bs)) (step_e rfl) (fun _ => dec2_any w3 _ (d0D bs) HD3.out)).mono ?_
  rintro e w4 ⟨rfl, hd, hbn⟩
  have HD4 : Hid (DecB w4 ⟨w.heap.size + 1, g, p, p + 1, p + 1 + 1, p + 1 + 1 + 1⟩ (d1D bs)) := hd
  have HBB4 := Lib.hid (HBB3.out.trans (hbn.mono (Nat.le_succ _)))
  have HZ4 := Lib.hid (HZ3.out.below hbn (Nat.lt_succ_self _))
  clear hd hbn
  go_wp2_with fail
  refine (next_any 106 _ (HCF.out _ (by simp) _) w4 _ (d1D bs) HD4.out (numD (d1D bs)) (step_e rfl) (fun _ => dec3_any w4 _ (d1D bs) HD4.out)).mono ?_
  rintro e w5 ⟨rfl, hd, hbn⟩
  have HD5 : Hid (DecB w5 ⟨w.heap.size + 1, g, p, p + 1, p + 1 + 1, p + 1 + 1 + 1⟩ (d2D bs)) := hd
  have HBB5 := Lib.hid (HBB4.out.trans (hbn.mono (Nat.le_succ _)))
  have HZ5 := Lib.hid (HZ4.out.below hbn (Nat.lt_succ_self _))
  clear hd hbn
  go_wp2_with fail
  refine (next_any 107 _ (HCF.out _ (by simp) _) w5 _ (d2D bs) HD5.out (posD (d2D bs)) (step_e rfl) (fun _ => dec4_any w5 _ (d2D bs) HD5.out)).mono ?_
  rintro e w6 ⟨rfl, hd, hbn⟩
  have HD6 : Hid (DecB w6 ⟨w.heap.size + 1, g, p, p + 1, p + 1 + 1, p + 1 + 1 + 1⟩ (d3D bs)) := hd
  have HBB6 := Lib.hid (HBB5.out.trans (hbn.mono (Nat.le_succ _)))
  have HZ6 := Lib.hid (HZ5.out.below hbn (Nat.lt_succ_self _))
  clear hd hbn
  go_wp2_with fail
  refine (next_any 108 _ (HCF.out _ (by simp) _) w6 _ (d3D bs) HD6.out (manyD (d3D bs)) (step_e rfl) (fun _ => dec5_any w6 _ (d3D bs) HD6.out)).mono ?_
  rintro e w7 ⟨rfl, hd, hbn⟩
  have HD7 : Hid (DecB w7 ⟨w.heap.size + 1, g, p, p + 1, p + 1 + 1, p + 1 + 1 + 1⟩ (d4D bs)) := hd
  have HBB7 := Lib.hid (HBB6.out.trans (hbn.mono (Nat.le_succ _)))
  have HZ7 := Lib.hid (HZ6.out.below hbn (Nat.lt_succ_self _))
  clear hd hbn
  obtain ⟨m0, m8, mL⟩ := HMR.out
  obtain ⟨m, hm⟩ : ∃ m : Nat, (d4D bs).many = m := ⟨(d4D bs).many.toNat, by omega⟩
  have cn : w7.cell? ⟨p + 1 + 1, 0, none⟩ = some (.int .i64 (m : Int)) := by rw [← hm]; exact one_cell HD7.out.kn
  have HMM : Hid (itD m (d4D bs) = d5D bs) := by show _ = _; rw [d5D, hm]; rfl
  have HML := Lib.hid mL
  have hm8 : m ≤ 8 := by omega
  clear m0 m8 hm mL
  go_wp2_with fail
  clear cn
  go_loopw [25] (fun iv wr => ∃ k : Nat, k ≤ m ∧ iv = .int .i64 k ∧ Hid (DecB wr ⟨w.heap.size + 1, g, p, p + 1, p + 1 + 1, p + 1 + 1 + 1⟩ (itD k (d4D bs))) ∧ Hid (Below w.heap.size w wr) ∧ Hid (Bk wr w.heap.size 101 (sgC 0 zeroD (.slice none 0 0) (.slice none 0 0)))) (fun iv _ => m - (intOf iv).toNat)
  case atStart => exact ⟨0, Nat.zero_le _, rfl, HD7.out, HBB7.out, HZ7.out⟩
  case round =>
    obtain ⟨k, hk, rfl, HDr, HBBr, HZr⟩ := hrel
    by_cases hlt : k < m
    · have hki : (k : Int) < m := by omega
      have HLL : Hid ((itD k (d4D bs)).L.length ≤ 1000) := by show _ ≤ _; have := itD_len (d4D bs) k; rw [HML.out] at this; simp at this; omega
      go_wp2_with fail
      refine (next_any 109 _ (HCF.out _ (by simp) _) wr _ (itD k (d4D bs)) HDr.out (sigD (itD k (d4D bs))) (step_e rfl) (fun _ => (fun w b _ h => dec6_any w b (itD k (d4D bs)) h HLL.out) wr _ (itD k (d4D bs)) HDr.out)).mono ?_
      rintro e w8 ⟨rfl, hd, hbn⟩
      have HD8 : Hid (DecB w8 ⟨w.heap.size + 1, g, p, p + 1, p + 1 + 1, p + 1 + 1 + 1⟩ (itD (k + 1) (d4D bs))) := hd
      have HBB8 := Lib.hid (HBBr.out.trans (hbn.mono (Nat.le_succ _)))
      have HZ8 := Lib.hid (HZr.out.below hbn (Nat.lt_succ_self _))
      clear hd hbn
      go_wp2_with fail
      go_roundw
      case rel => exact ⟨k + 1, by omega, by go_num, HD8.out, HBB8.out, HZ8.out⟩
      case measure => simp [intOf]; omega
    · have hkk : m = k := by omega
      subst hkk
      rw [HMM.out] at HDr
      have HKE : Hid (Bk wr (p + 1 + 1 + 1) 27 [.int .i64 (d5D bs).e]) := HDr.out.ke
      obtain ⟨E, hE⟩ : ∃ E, (d5D bs).e = E := ⟨_, rfl⟩
      have HE := Lib.hid hE
      rw [hE] at HKE
      have ce0 := one_cell HKE.out
      clear hE
      by_cases he : E = 0
      · subst he
        have cr := one_cell HDr.out.kr
        have fe := HKE.out.frozen 0
        go_wp2_with fail
        refine (rdEnd_any wr g (d5D bs).rd HDr.out.rd).mono ?_
        rintro e we ⟨rfl, q, rfl⟩
        have HDe : Hid (DecB (wr.drewN q) ⟨w.heap.size + 1, g, p, p + 1, p + 1 + 1, p + 1 + 1 + 1⟩ (d5D bs)) := HDr.out.drewN q
        have HBBe := Lib.hid (HBBr.out.trans (below_draws wr w.heap.size q))
        have HZe := Lib.hid (HZr.out.drewN q)
        obtain ⟨we, hwe⟩ : ∃ we, wr.drewN q = we := ⟨_, rfl⟩
        rw [hwe] at HDe HBBe HZe ⊢
        obtain ⟨R, hR⟩ : ∃ R, endR (d5D bs).rd = R := ⟨_, rfl⟩
        have HR := Lib.hid hR
        rw [hR]
        obtain ⟨wf, hwf⟩ : ∃ wf, we.setCell ⟨p + 1 + 1 + 1, 0, none⟩ (.int .i64 R) = wf := ⟨_, rfl⟩
        have HDf : Hid (DecB wf ⟨w.heap.size + 1, g, p, p + 1, p + 1 + 1, p + 1 + 1 + 1⟩ { d5D bs with e := R }) := hwf ▸ HDe.out.setE R
        have HBBf : Hid (Below w.heap.size w wf) := hwf ▸ below_only HBBe.out (only_set (World.grownBy.refl we _) 0 _) HBBe.out.size (by have := HPW.out; omega)
        have HZf : Hid (Bk wf w.heap.size 101 (sgC 0 zeroD (.slice none 0 0) (.slice none 0 0))) := hwf ▸ HZe.out.far (p := ⟨p + 1 + 1 + 1, 0, none⟩) (show w.heap.size ≠ p + 1 + 1 + 1 by have := HPW.out; omega) _
        have HKEf : Hid (Bk wf (p + 1 + 1 + 1) 27 [.int .i64 R]) := HDf.out.ke
        have hst : we.cell? ⟨p + 1 + 1 + 1, 0, none⟩ = some (.int .i64 0) := by rw [← hwe]; exact ce0
        have hsf : we.frozen? ⟨p + 1 + 1 + 1, 0, none⟩ = false := by rw [← hwe]; exact fe
        clear hR hwe ce0 fe cr
        by_cases hR0 : R = 0
        · subst hR0
          have ce := one_cell HKEf.out
          have HFIN : Hid (decS bs = ⟨(d5D bs).t, (d5D bs).n, (d5D bs).ps, (d5D bs).L, 0⟩) := by show _ = _; rw [decS, endD, HE.out, if_pos rfl, HR.out, if_pos rfl]
          obtain ⟨P, Q, c', M, dd, rs, h1, h2, h3, h4, h5⟩ := HDf.out.ks
          have HT : Hid (DgOk (d5D bs).t) := HDf.out.ok
          obtain ⟨J, hJ⟩ : ∃ J : Jn, J = ⟨(d5D bs).t, (d5D bs).n, (d5D bs).ps, (d5D bs).L, 0⟩ := ⟨_, rfl⟩
          have K1 : Hid (Bk wf (p + 1) 101 (sgC J.n J.t (.slice P J.ps.length c') (.slice Q M dd))) := by rw [hJ]; exact h1
          have K2 : Hid (wf.ownsRow w.heap.size 5 1 (.slice P J.ps.length c') J.ps.length (J.ps.map (.int .u8))) := by rw [hJ]; exact own_base h2 (by have := HPW.out; show w.heap.size ≤ p + 1 + 1 + 1 + 1; omega)
          have K3 := Lib.hid (own_base (base' := w.heap.size) h3 (by have := HPW.out; show w.heap.size ≤ p + 1 + 1 + 1 + 1; omega))
          have K4 : Hid (PcsOwn wf w.heap.size rs) := fun q hq => own_base (h4 q hq) (by have := HPW.out; show w.heap.size ≤ p + 1 + 1 + 1 + 1; omega)
          have K5 : Hid (bsP rs = J.L) := by rw [hJ]; exact h5
          have HTJ : Hid (DgOk J.t) := by rw [hJ]; exact HT.out
          rw [← hJ] at HFIN
          have HJE : Hid (J.e = 0) := by rw [hJ]; exact rfl
          clear h1 h2 h3 h4 h5 hJ
          go_wp2_with (first
            | (with_reducible refine wpList_load_bk rfl 101 _ rfl (p + 1) rfl (sgC J.n J.t (.slice P J.ps.length c') (.slice Q M dd)) 101 K1.out _ Try.underlying101 rfl (sg_info HTJ.out) ?_)
            | (with_reducible refine stop_store 101 _ _ rfl ?_))
          refine StopD.go ?_
          refine wpList_store_part rfl 101 _ _ rfl w.heap.size 0 (.agg (sgC J.n J.t (.slice P J.ps.length c') (.slice Q M dd)).toArray) (sgC J.n J.t (.slice P J.ps.length c') (.slice Q M dd)) rfl rfl rfl 101 [] (sgC 0 zeroD (.slice none 0 0) (.slice none 0 0)) [] (by simpa using HZf.out) rfl (by rw [sgC_len HTJ.out]; rfl) (sg_info HTJ.out) sg_one ?_
          intro w9 hp
          have HZ9 : Hid (Bk w9 w.heap.size 101 (sgC J.n J.t (.slice P J.ps.length c') (.slice Q M dd))) := by show Bk _ _ _ _; have := hp.bk; simpa using this
          have HBB9 := Lib.hid (below_only HBBf.out hp.only HBBf.out.size (Nat.le_refl _))
          have L2 := Lib.hid (own_only K2.out hp.only (own_bk_ne K2.out HZf.out (by decide)))
          have L3 := Lib.hid (own_only K3.out hp.only (own_bk_ne K3.out HZf.out (by decide)))
          have L4 := Lib.hid (K4.out.grown HZf.out (by decide) hp.only)
          clear hp
          go_wp2_with fail
          refine bodyPost_ret (dec_sret HTJ.out HZ9.out _ rfl rfl) rfl ?_
          rw [HFIN.out]
          exact ⟨P, Q, J.ps.length, c', M, dd, rs, by rw [HJE.out], L2.out, L3.out, L4.out, K5.out, HBB9.out⟩
        · have HNE := Lib.hid hR0
          have HFIN : Hid (decS bs = ⟨zeroD, 0, [], [], R⟩) := by show _ = _; rw [decS, endD, HE.out, if_pos rfl, HR.out, if_neg hR0]
          have ce0 := one_cell HKEf.out
          clear hR0
          have ce := one_cell HKEf.out
          have hne : (R != 0) = true := by simpa using HNE.out
          clear ce0
          go_wp2_with fail
          refine wp_region_held_drew (S := fun w' => Bk w' (p + 1 + 1 + 1) 27 [.int .i64 R]) (by kernel_rfl) (Bk.drew HKEf.out) (fun hHeld => ?_)
          refine wpAnyH_take (i := 0) (v := .agg (List.toArray (sgC 0 zeroD (.slice none 0 0) (.slice none 0 0)))) rfl (by kernel_rfl) (by kernel_rfl) (by kernel_rfl) (fun _ _ _ h => h) (yieldsIf_build (by rfl) _ _ rfl #[] (by simp [Act.eval]) _ (build_sg0)) (by assumption) ?_
          try simp only [Act.put, List.setIfInBounds_toArray, List.set_cons_zero, List.set_cons_succ, List.getElem_toArray, List.getElem_cons_zero, List.getElem_cons_succ]
          refine wpAnyH_take (i := 1) (v := ?_) rfl (by kernel_rfl) (by kernel_rfl) (by kernel_rfl) (fun _ _ _ h => h) (Or.inl ⟨by rfl, ?_⟩) (by assumption) ?_
          rotate_left
          · intro w hSw
            have hcell := (one_cell hSw)
            clear hSw
            go_simp
            try with_reducible rfl
          try simp only [Act.put, List.setIfInBounds_toArray, List.set_cons_zero, List.set_cons_succ, List.getElem_toArray, List.getElem_cons_zero, List.getElem_cons_succ]
          refine wpAnyH_ready (rs := [2]) (by kernel_rfl) (by simp) ?_
          refine AllReadyH.cons rfl (fun K hK => ?_) AllReadyH.nil
          rw [if_pos (by rfl)]
          refine wp_store_part _ _ _ rfl w.heap.size 0 _ (sgC 0 zeroD (.slice none 0 0) (.slice none 0 0)) rfl rfl rfl _ ([]) (sgC 0 zeroD (.slice none 0 0) (.slice none 0 0)) ([]) (by have := HZf.out.drew; simpa using this) rfl rfl (sg_info zero_ok) sg_one ?_
          intro w9 hp9
          refine hK.out _ _ (hHeld.grown hp9.only (by intro h; injection h with h; have := HPW.out; omega)) (fun hHeld => ?_)
          clear hK K
          try simp only [Act.put, List.setIfInBounds_toArray, List.set_cons_zero, List.set_cons_succ, List.getElem_toArray, List.getElem_cons_zero, List.getElem_cons_succ]
          refine wpAnyH_take (i := 3) (v := ?_) rfl (by kernel_rfl) (by kernel_rfl) (by kernel_rfl) (fun _ _ _ h => h) (Or.inl ⟨by rfl, ?_⟩) (by assumption) ?_
          rotate_left
          · intro w hSw
            (try dsimp only at hSw)
            go_simp
            try with_reducible rfl
          try simp only [Act.put, List.setIfInBounds_toArray, List.set_cons_zero, List.set_cons_succ, List.getElem_toArray, List.getElem_cons_zero, List.getElem_cons_succ]
          refine wpAnyH_done (by kernel_rfl) ?_ _
          clear hHeld
          have HZ9 : Hid (Bk w9 w.heap.size 101 (sgC 0 zeroD (.slice none 0 0) (.slice none 0 0))) := by show Bk _ _ _ _; have := hp9.bk; simpa using this
          have HBB9 := Lib.hid (below_only (HBBf.out.trans (below_draws wf _ 1)) hp9.only HBBf.out.size (Nat.le_refl _))
          clear hp9
          go_wp2_with fail
          refine bodyPost_ret (dec_sret zero_ok HZ9.out _ rfl rfl) rfl ?_
          rw [HFIN.out]
          exact ⟨none, none, 0, 0, 0, 0, [], rfl, World.ownsRow_nil _ _ _ _, World.ownsRow_nil _ _ _ _, PcsOwn.nil_ _ _, rfl, HBB9.out⟩
      · have he0 : (E == 0) = false := by simpa using he
        have HNE := Lib.hid he
        have HKEr := HKE
        have HFIN : Hid (decS bs = ⟨zeroD, 0, [], [], E⟩) := by show _ = _; rw [decS, endD, HE.out, if_neg he, if_neg he]
        clear he
        have ce := one_cell HKEr.out
        have hne : (E != 0) = true := by simpa using HNE.out
        clear ce0
        go_wp2_with fail
        refine wp_region_held_drew (S := fun w' => Bk w' (p + 1 + 1 + 1) 27 [.int .i64 E]) (by kernel_rfl) (Bk.drew HKEr.out) (fun hHeld => ?_)
        refine wpAnyH_take (i := 0) (v := .agg (List.toArray (sgC 0 zeroD (.slice none 0 0) (.slice none 0 0)))) rfl (by kernel_rfl) (by kernel_rfl) (by kernel_rfl) (fun _ _ _ h => h) (yieldsIf_build (by rfl) _ _ rfl #[] (by simp [Act.eval]) _ (build_sg0)) (by assumption) ?_
        try simp only [Act.put, List.setIfInBounds_toArray, List.set_cons_zero, List.set_cons_succ, List.getElem_toArray, List.getElem_cons_zero, List.getElem_cons_succ]
        refine wpAnyH_take (i := 1) (v := ?_) rfl (by kernel_rfl) (by kernel_rfl) (by kernel_rfl) (fun _ _ _ h => h) (Or.inl ⟨by rfl, ?_⟩) (by assumption) ?_
        rotate_left
        · intro w hSw
          have hcell := (one_cell hSw)
          clear hSw
          go_simp
          try with_reducible rfl
        try simp only [Act.put, List.setIfInBounds_toArray, List.set_cons_zero, List.set_cons_succ, List.getElem_toArray, List.getElem_cons_zero, List.getElem_cons_succ]
        refine wpAnyH_ready (rs := [2]) (by kernel_rfl) (by simp) ?_
        refine AllReadyH.cons rfl (fun K hK => ?_) AllReadyH.nil
        rw [if_pos (by rfl)]
        refine wp_store_part _ _ _ rfl w.heap.size 0 _ (sgC 0 zeroD (.slice none 0 0) (.slice none 0 0)) rfl rfl rfl _ ([]) (sgC 0 zeroD (.slice none 0 0) (.slice none 0 0)) ([]) (by have := HZr.out.drew; simpa using this) rfl rfl (sg_info zero_ok) sg_one ?_
        intro w9 hp9
        refine hK.out _ _ (hHeld.grown hp9.only (by intro h; injection h with h; have := HPW.out; omega)) (fun hHeld => ?_)
        clear hK K
        try simp only [Act.put, List.setIfInBounds_toArray, List.set_cons_zero, List.set_cons_succ, List.getElem_toArray, List.getElem_cons_zero, List.getElem_cons_succ]
        refine wpAnyH_take (i := 3) (v := ?_) rfl (by kernel_rfl) (by kernel_rfl) (by kernel_rfl) (fun _ _ _ h => h) (Or.inl ⟨by rfl, ?_⟩) (by assumption) ?_
        rotate_left
        · intro w hSw
          (try dsimp only at hSw)
          go_simp
          try with_reducible rfl
        try simp only [Act.put, List.setIfInBounds_toArray, List.set_cons_zero, List.set_cons_succ, List.getElem_toArray, List.getElem_cons_zero, List.getElem_cons_succ]
        refine wpAnyH_done (by kernel_rfl) ?_ _
        clear hHeld
        have HZ9 : Hid (Bk w9 w.heap.size 101 (sgC 0 zeroD (.slice none 0 0) (.slice none 0 0))) := by show Bk _ _ _ _; have := hp9.bk; simpa using this
        have HBB9 := Lib.hid (below_only (HBBr.out.trans (below_draws wr _ 1)) hp9.only HBBr.out.size (Nat.le_refl _))
        clear hp9
        go_wp2_with fail
        refine bodyPost_ret (dec_sret zero_ok HZ9.out _ rfl rfl) rfl ?_
        rw [HFIN.out]
        exact ⟨none, none, 0, 0, 0, 0, [], rfl, World.ownsRow_nil _ _ _ _, World.ownsRow_nil _ _ _ _, PcsOwn.nil_ _ _, rfl, HBB9.out⟩
end Go.Proofs.Ythibihjblodfmaa
