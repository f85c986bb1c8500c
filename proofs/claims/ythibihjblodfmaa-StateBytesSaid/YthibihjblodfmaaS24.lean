/- A signed state, read off bytes: the program's closures. -/
import Derived.Test.YthibihjblodfmaaS22
import Derived.Test.YthibihjblodfmaaS18
import Derived.Test.YthibihjblodfmaaQ11
namespace Go.Proofs.Ythibihjblodfmaa
open Go.RowKit Go.Maps

/-- What the decoder knows: the reader, the error, the fields, how many signatures, the signatures. -/
structure Ds where
  rd : Rd
  e : Int
  n : Int
  t : List Int
  ps : List Int
  many : Int
  L : List (List Int)
/-- Where its boxes lie. -/
structure Bx where
  base : Nat
  g : Nat
  pr : Nat
  ps : Nat
  pn : Nat
  pe : Nat
structure Bx.Ok (b : Bx) : Prop where
  h1 : b.base ≤ b.g
  h2 : b.g < b.pr
  h3 : b.pr < b.ps
  h4 : b.ps < b.pn
  h5 : b.pn < b.pe
/-- The signed state in memory, what it holds its own. -/
def SgOwn (w : World) (base g : Nat) (n : Int) (t ps : List Int) (L : List (List Int)) : Prop :=
  ∃ (P Q : Option Addr) (c M d : Nat) (rs : List Pc), Bk w g 101 (sgC n t (.slice P ps.length c) (.slice Q M d)) ∧ w.ownsRow base 5 1 (.slice P ps.length c) ps.length (ps.map (.int .u8)) ∧ w.ownsRow base 23 1 (.slice Q M d) M (rs.map Pc.v) ∧ PcsOwn w base rs ∧ bsP rs = L
structure DecB (w : World) (b : Bx) (d : Ds) : Prop where
  ord : b.Ok
  kr : Bk w b.pr 129 [.pointer (some ⟨b.g, 0, none⟩)]
  ks : SgOwn w (b.pe + 1) b.ps d.n d.t d.ps d.L
  kn : Bk w b.pn 3 [.int .i64 d.many]
  ke : Bk w b.pe 27 [.int .i64 d.e]
  rd : RdAt w b.g b.g d.rd
  ok : DgOk d.t
theorem SgOwn.later {w w' : World} {base g : Nat} {n : Int} {t ps : List Int} {L : List (List Int)} (h : SgOwn w base g n t ps L) (hb : Below w.heap.size w w') : SgOwn w' base g n t ps L := by
  obtain ⟨P, Q, c, M, d, rs, h1, h2, h3, h4, h5⟩ := h
  exact ⟨P, Q, c, M, d, rs, h1.later hb, own_keep h2 hb, own_keep h3 hb, h4.later hb, h5⟩
theorem SgOwn.only {w w' : World} {base g q : Nat} {n : Int} {t ps : List Int} {L : List (List Int)} {ty : TypeId} {xs : List Value} (h : SgOwn w base g n t ps L) (hg : w.grownBy w' (some q)) (hk : Bk w q ty xs) (hq : g ≠ q) (h8 : 5 ≠ ty) (h9 : 23 ≠ ty) : SgOwn w' base g n t ps L := by
  obtain ⟨P, Q, c, M, d, rs, h1, h2, h3, h4, h5⟩ := h
  exact ⟨P, Q, c, M, d, rs, h1.grown hg (by intro h; injection h with h; omega), own_only h2 hg (own_bk_ne h2 hk h8), own_only h3 hg (own_bk_ne h3 hk h9), h4.grown hk h8 hg, h5⟩
theorem DecB.later {w w' : World} {b : Bx} {d : Ds} (h : DecB w b d) (hb : Below w.heap.size w w') : DecB w' b d :=
  ⟨h.ord, h.kr.later hb, h.ks.later hb, h.kn.later hb, h.ke.later hb, h.rd.later hb, h.ok⟩
theorem DecB.drewN {w : World} {b : Bx} {d : Ds} (h : DecB w b d) (q : Nat) : DecB (w.drewN q) b d := h.later (below_draws w _ q)
theorem DecB.turnE {w w' : World} {b : Bx} {d : Ds} {x : Int} (h : DecB w b d) (hg : w.grownBy w' (some b.pe)) (hk : Bk w' b.pe 27 [.int .i64 x]) : DecB w' b { d with e := x } := by
  obtain ⟨h1, h2, h3, h4, h5⟩ := h.ord
  exact ⟨h.ord, h.kr.grown hg (by intro h; injection h with h; omega), h.ks.only hg h.ke (by omega) (by decide) (by decide), h.kn.grown hg (by intro h; injection h with h; omega), hk, h.rd.only hg (by omega) (by omega), h.ok⟩
theorem DecB.turnN {w w' : World} {b : Bx} {d : Ds} {x : Int} (h : DecB w b d) (hg : w.grownBy w' (some b.pn)) (hk : Bk w' b.pn 3 [.int .i64 x]) : DecB w' b { d with many := x } := by
  obtain ⟨h1, h2, h3, h4, h5⟩ := h.ord
  exact ⟨h.ord, h.kr.grown hg (by intro h; injection h with h; omega), h.ks.only hg h.kn (by omega) (by decide) (by decide), hk, h.ke.grown hg (by intro h; injection h with h; omega), h.rd.only hg (by omega) (by omega), h.ok⟩
theorem rd_bk {w : World} {g L : Nat} {s : Rd} (h : RdAt w g L s) : ∃ xs, Bk w g 171 xs := by
  obtain ⟨A, n, c, bs, k, h1, _⟩ := h
  exact ⟨_, h1⟩
theorem DecB.turnR {w w' : World} {b : Bx} {d : Ds} {s : Rd} (h : DecB w b d) (hg : w.grownBy w' (some b.g)) (hr : RdAt w' b.g b.g s) : DecB w' b { d with rd := s } := by
  obtain ⟨h1, h2, h3, h4, h5⟩ := h.ord
  obtain ⟨xs, hx⟩ := rd_bk h.rd
  exact ⟨h.ord, h.kr.grown hg (by intro h; injection h with h; omega), h.ks.only hg hx (by omega) (by decide) (by decide), h.kn.grown hg (by intro h; injection h with h; omega), h.ke.grown hg (by intro h; injection h with h; omega), hr, h.ok⟩
theorem DecB.turnS {w w' : World} {b : Bx} {d : Ds} {n : Int} {t ps : List Int} {L : List (List Int)} (h : DecB w b d) (hg : w.grownBy w' (some b.ps)) (hk : SgOwn w' (b.pe + 1) b.ps n t ps L) (ht : DgOk t) : DecB w' b { d with n := n, t := t, ps := ps, L := L } := by
  obtain ⟨h1, h2, h3, h4, h5⟩ := h.ord
  exact ⟨h.ord, h.kr.grown hg (by intro h; injection h with h; omega), hk, h.kn.grown hg (by intro h; injection h with h; omega), h.ke.grown hg (by intro h; injection h with h; omega), h.rd.only hg (by omega) (by omega), ht⟩

theorem Bx.Ok.le {b : Bx} (h : b.Ok) : b.base ≤ b.g ∧ b.base ≤ b.pr ∧ b.base ≤ b.ps ∧ b.base ≤ b.pn ∧ b.base ≤ b.pe := by
  obtain ⟨h1, h2, h3, h4, h5⟩ := h
  omega
theorem DecB.base {w : World} {b : Bx} {d : Ds} (h : DecB w b d) : b.base ≤ w.heap.size := by
  have := h.ord.le; have := h.ke.lt; omega
theorem DecB.setE {w : World} {b : Bx} {d : Ds} (h : DecB w b d) (x : Int) : DecB (w.setCell ⟨b.pe, 0, none⟩ (.int .i64 x)) b { d with e := x } :=
  h.turnE (only_set (World.grownBy.refl w _) 0 _) (h.ke.set_ 0 (.int .i64 x))
theorem DecB.belowE {w w0 : World} {b : Bx} {d : Ds} (h : DecB w b d) (hb : Below b.base w0 w) (x : Int) : Below b.base w0 (w.setCell ⟨b.pe, 0, none⟩ (.int .i64 x)) :=
  below_only hb (only_set (World.grownBy.refl w _) 0 _) h.base h.ord.le.2.2.2.2
theorem RdAt.apart {w w' : World} {g L base size n : Nat} {s : Rd} {e : TypeId} {v : Value} {xs : List Value} (h : RdAt w g L s) (ho : w.ownsRow base e size v n xs) (hb : g < base) (hL : L ≤ base) (hg : w.grownBy w' v.ownBlock) : RdAt w' g L s := by
  rcases own_bk ho with ⟨rfl, _⟩ | ⟨q, cap, zs, rfl, hq, hk, _⟩
  · exact h.later ⟨hg.os, hg.tape, hg.output, hg.size, fun k hk => hg.block k hk (by simp [Value.ownBlock])⟩
  · exact h.only (q := q) hg (by omega) (by omega)
theorem bk_apart {w w' : World} {g base size n : Nat} {t e : TypeId} {v : Value} {xs ys : List Value} (h : Bk w g t ys) (ho : w.ownsRow base e size v n xs) (hb : g < base) (hg : w.grownBy w' v.ownBlock) : Bk w' g t ys := by
  rcases own_bk ho with ⟨rfl, _⟩ | ⟨q, cap, zs, rfl, hq, hk, _⟩
  · exact h.grown hg (by simp [Value.ownBlock])
  · exact h.grown hg (by simp [Value.ownBlock]; omega)
/-- What a closure leaves: whether it was formed, and the decoder. -/
def RetC (b : Bx) (p : Ds × Bool) (w : World) (e : Ending) (w' : World) : Prop := e = .returned (.bool p.2) ∧ DecB w' b p.1 ∧ Below b.base w w'
/-- One step: nothing once there is an error; the reader's error; else whether it was formed. -/
def errD (r : Int) (ok : Bool) : Int := if r = 0 then (if ok = true then 0 else 3) else r
def stepD (d : Ds) (p : Ds × Bool) : Ds := if d.e = 0 then { p.1 with e := errD p.1.rd.err p.2 } else d
def RetX (b : Bx) (d : Ds) (w : World) (e : Ending) (w' : World) : Prop := e = .returned (.tuple #[]) ∧ DecB w' b d ∧ Below b.base w w'
set_option maxRecDepth 20000 in
set_option maxHeartbeats 1000000 in
theorem next_any (i : Nat) (cap : Array Value) (hcf : ∀ w, (callFunc i cap).run Try.prog w = .ok (.enter i cap) w) (w : World) (b : Bx) (d : Ds) (h : DecB w b d) (p : Ds × Bool) (hp : d.e = 0 → p.1.e = 0) (hC : d.e = 0 → Calls Try.prog i cap w (RetC b p w)) :
    Calls Try.prog 103 #[.func (.func i) #[] cap, .pointer (some ⟨b.pe, 0, none⟩), .pointer (some ⟨b.pr, 0, none⟩)] w (RetX b (stepD d p) w) := by
  have HD := Lib.hid h
  have ce := one_cell h.ke
  by_cases he : d.e = 0
  · have hC' := Lib.hid (hC he)
    have hp := hp he
    rw [he] at ce
    obtain ⟨D, hD⟩ : ∃ D, stepD d p = D := ⟨_, rfl⟩
    have HDD := Lib.hid hD
    rw [hD]
    unfold stepD at hD
    rw [if_pos he] at hD
    have HDE : Hid ({ p.1 with e := errD p.1.rd.err p.2 } = D) := hD
    clear hC he h hD
    go_enter Try.func103, Try.ntmps103
    go_wp2_with fail
    refine hC'.out.mono ?_
    rintro e w1 ⟨rfl, hd, hb⟩
    have HD1 := Lib.hid hd
    have HB1 := Lib.hid hb
    have ce := one_cell hd.ke
    have cr := one_cell hd.kr
    clear hd hb
    have fe := HD1.out.ke.frozen 0
    go_wp2_with fail
    refine (rdErr_any w1 b.g p.1.rd HD1.out.rd).mono ?_
    rintro e w1' ⟨rfl, rfl⟩
    obtain ⟨q1, q2⟩ := p
    obtain ⟨r, hr⟩ : ∃ r, q1.rd.err = r := ⟨_, rfl⟩
    dsimp only at hr HDE HD1 hp ce ⊢
    rw [hr] at HDE ⊢
    clear hr
    by_cases hr0 : r = 0
    · subst hr0
      cases q2
      · go_wp2_with fail
        refine bodyPost_ret (results_none rfl _ _ _) rfl ?_
        exact ⟨rfl, by rw [← HDE.out]; exact (HD1.out.setE 0).setE 3, (HD1.out.setE 0).belowE (HD1.out.belowE HB1.out 0) 3⟩
      · go_wp2_with fail
        refine bodyPost_ret (results_none rfl _ _ _) rfl ?_
        exact ⟨rfl, by rw [← HDE.out]; exact HD1.out.setE 0, HD1.out.belowE HB1.out 0⟩
    · have hr1 : (r == 0) = false := by simpa using hr0
      have HE : Hid (errD r q2 = r) := by show _ = _; rw [errD, if_neg hr0]
      rw [HE.out] at HDE
      go_wp2_with fail
      refine bodyPost_ret (results_none rfl _ _ _) rfl ?_
      exact ⟨rfl, by rw [← HDE.out]; exact HD1.out.setE r, HD1.out.belowE HB1.out r⟩
  · obtain ⟨D, hD⟩ : ∃ D, stepD d p = D := ⟨_, rfl⟩
    rw [hD]
    unfold stepD at hD
    rw [if_neg he] at hD
    subst hD
    have he1 : (d.e != 0) = true := by simpa using he
    clear hC h he hp
    go_enter Try.func103, Try.ntmps103
    go_wp2_with fail
    refine bodyPost_ret (results_none rfl _ _ _) rfl ?_
    exact ⟨rfl, HD.out, Below.refl _ _⟩

def numD (d : Ds) : Ds × Bool := ({ d with rd := (numR d.rd 1099511627776).1, n := (numR d.rd 1099511627776).2 }, true)
def posD (d : Ds) : Ds × Bool := ({ d with rd := (someR d.rd 4096).1, ps := (someR d.rd 4096).2 }, true)
def manyD (d : Ds) : Ds × Bool := ({ d with rd := (numR d.rd 8).1, many := (numR d.rd 8).2 }, decide (2 ≤ (numR d.rd 8).2))
def sigD (d : Ds) : Ds × Bool := ({ d with rd := (someR d.rd 4096).1, L := d.L ++ [(someR d.rd 4096).2] }, true)
def tabD (d : Ds) : Ds × Bool := ({ d with rd := (someR d.rd 8).1, t := (someR d.rd 8).2 ++ d.t.drop (someR d.rd 8).2.length }, decide ((someR d.rd 8).2.length = 8))
theorem sg_preN {n : Int} {t : List Int} {p q : Value} : sgC n t p q = dl t ++ ([.int .i64 n] ++ [p, q]) := by simp [sgC, staC]
set_option maxRecDepth 20000 in
set_option maxHeartbeats 1000000 in
theorem dec3_any (w : World) (b : Bx) (d : Ds) (h : DecB w b d) :
    Calls Try.prog 106 #[.pointer (some ⟨b.pr, 0, none⟩), .pointer (some ⟨b.ps, 0, none⟩)] w (RetC b (numD d) w) := by
  have HD := Lib.hid h
  have cr := one_cell h.kr
  obtain ⟨x0, x1⟩ := num_rng h.rd.ok (most := 1099511627776) (by decide)
  obtain ⟨R, hR⟩ : ∃ R, numR d.rd 1099511627776 = R := ⟨_, rfl⟩
  have HDE : Hid (numD d = ({ d with rd := R.1, n := R.2 }, true)) := by show _ = _; rw [numD, hR]
  have HR := Lib.hid (rdNum_any w b.g d.rd h.rd 1099511627776)
  rw [hR] at HR x0 x1
  have hw : IntKind.i64.wrap R.2 = R.2 := IntWalk.i64_in _ (by omega)
  have HT8 : Hid ((dl d.t).length = 8) := by show _ = _; rw [dl_len, h.ok.len]
  rw [HDE.out]
  clear h hR x0 x1
  go_enter Try.func106, Try.ntmps106
  go_wp2_with fail
  refine HR.out.mono ?_
  rintro e w1 ⟨rfl, hr, hg⟩
  have HD1 := Lib.hid (HD.out.turnR hg hr)
  have HB1 := Lib.hid (below_only (Below.refl b.base w) hg HD.out.base HD.out.ord.le.1)
  clear hr hg
  obtain ⟨P, Q, c, M, dd, rs, h1, h2, h3, h4, h5⟩ := HD1.out.ks
  have K1 := Lib.hid h1; have K2 := Lib.hid h2; have K3 := Lib.hid h3; have K4 := Lib.hid h4; have K5 := Lib.hid h5
  clear h1 h2 h3 h4 h5
  go_wp2_with (with_reducible refine stop_store 3 _ _ rfl ?_)
  refine StopD.go ?_
  rw [sg_preN] at K1
  refine wpList_store_part rfl 3 _ _ rfl b.ps 8 (.int .i64 R.2) [.int .i64 R.2] rfl rfl rfl 101 (dl d.t) [.int .i64 d.n] [.slice P d.ps.length c, .slice Q M dd] K1.out HT8.out rfl (by kernel_rfl) (by simp [Value.oneCell']) ?_
  intro w2 hp
  have HS2 : Hid (SgOwn w2 (b.pe + 1) b.ps R.2 d.t d.ps d.L) := ⟨P, Q, c, M, dd, rs, by rw [sg_preN]; exact hp.bk, own_only K2.out hp.only (own_bk_ne K2.out K1.out (by decide)), own_only K3.out hp.only (own_bk_ne K3.out K1.out (by decide)), K4.out.grown K1.out (by decide) hp.only, K5.out⟩
  have HD2 := Lib.hid (HD1.out.turnS hp.only HS2.out HD1.out.ok)
  have HB2 := Lib.hid (below_only HB1.out hp.only HD1.out.base HD1.out.ord.le.2.2.1)
  clear hp
  go_wp2_with fail
  go_ret
  exact ⟨rfl, HD2.out, HB2.out⟩
set_option maxRecDepth 20000 in
set_option maxHeartbeats 1000000 in
theorem dec4_any (w : World) (b : Bx) (d : Ds) (h : DecB w b d) :
    Calls Try.prog 107 #[.pointer (some ⟨b.pr, 0, none⟩), .pointer (some ⟨b.ps, 0, none⟩)] w (RetC b (posD d) w) := by
  have HD := Lib.hid h
  have cr := one_cell h.kr
  obtain ⟨R, hR⟩ : ∃ R, someR d.rd 4096 = R := ⟨_, rfl⟩
  have HDE : Hid (posD d = ({ d with rd := R.1, ps := R.2 }, true)) := by show _ = _; rw [posD, hR]
  have HR := Lib.hid (rdBytes_any w b.g d.rd h.rd 4096 (by omega) (by omega))
  rw [hR] at HR
  have HT8 : Hid ((dl d.t ++ [Value.int .i64 d.n]).length = 9) := by show _ = _; simp [dl_len, h.ok.len]
  rw [HDE.out]
  clear h hR
  go_enter Try.func107, Try.ntmps107
  go_wp2_with fail
  refine HR.out.mono ?_
  rintro e w1 ⟨v, rfl, hown, hr, hg⟩
  obtain ⟨P1, c1, rfl⟩ := own_form hown
  have HD1 := Lib.hid (HD.out.turnR hg hr)
  have HB1 := Lib.hid (below_only (Below.refl b.base w) hg HD.out.base HD.out.ord.le.1)
  have HO1 := Lib.hid (own_base (base' := b.pe + 1) hown HD.out.ke.lt)
  clear hr hg hown
  obtain ⟨P, Q, c, M, dd, rs, h1, h2, h3, h4, h5⟩ := HD1.out.ks
  have K1 := Lib.hid h1; have K3 := Lib.hid h3; have K4 := Lib.hid h4; have K5 := Lib.hid h5
  clear h1 h2 h3 h4 h5
  go_wp2_with (with_reducible refine stop_store 23 _ _ rfl ?_)
  refine StopD.go ?_
  rw [sg_preP] at K1
  refine wpList_store_part rfl 23 _ _ rfl b.ps 9 (.slice P1 R.2.length c1) [.slice P1 R.2.length c1] rfl rfl rfl 101 (dl d.t ++ [.int .i64 d.n]) [.slice P d.ps.length c] [.slice Q M dd] K1.out HT8.out rfl (by kernel_rfl) (by simp [Value.oneCell']) ?_
  intro w2 hp
  have HS2 : Hid (SgOwn w2 (b.pe + 1) b.ps d.n d.t R.2 d.L) := ⟨P1, Q, c1, M, dd, rs, by rw [sg_preP]; exact hp.bk, own_only HO1.out hp.only (own_bk_ne HO1.out K1.out (by decide)), own_only K3.out hp.only (own_bk_ne K3.out K1.out (by decide)), K4.out.grown K1.out (by decide) hp.only, K5.out⟩
  have HD2 := Lib.hid (HD1.out.turnS hp.only HS2.out HD1.out.ok)
  have HB2 := Lib.hid (below_only HB1.out hp.only HD1.out.base HD1.out.ord.le.2.2.1)
  clear hp
  go_wp2_with fail
  go_ret
  exact ⟨rfl, HD2.out, HB2.out⟩
set_option maxRecDepth 20000 in
set_option maxHeartbeats 1000000 in
theorem dec5_any (w : World) (b : Bx) (d : Ds) (h : DecB w b d) :
    Calls Try.prog 108 #[.pointer (some ⟨b.pr, 0, none⟩), .pointer (some ⟨b.pn, 0, none⟩)] w (RetC b (manyD d) w) := by
  have HD := Lib.hid h
  have cr := one_cell h.kr
  obtain ⟨x0, x1⟩ := num_rng h.rd.ok (most := 8) (by decide)
  obtain ⟨R, hR⟩ : ∃ R, numR d.rd 8 = R := ⟨_, rfl⟩
  have HDE : Hid (manyD d = ({ d with rd := R.1, many := R.2 }, decide (2 ≤ R.2))) := by show _ = _; rw [manyD, hR]
  have HR := Lib.hid (rdNum_any w b.g d.rd h.rd 8)
  rw [hR] at HR x0 x1
  have hw : IntKind.i64.wrap R.2 = R.2 := IntWalk.i64_in _ (by omega)
  rw [HDE.out]
  clear h hR x0 x1
  go_enter Try.func108, Try.ntmps108
  go_wp2_with fail
  refine HR.out.mono ?_
  rintro e w1 ⟨rfl, hr, hg⟩
  have HD1 := Lib.hid (HD.out.turnR hg hr)
  have HB1 := Lib.hid (below_only (Below.refl b.base w) hg HD.out.base HD.out.ord.le.1)
  have ce := one_cell HD1.out.kn
  have fe := HD1.out.kn.frozen 0
  clear hr hg
  have HD2 := Lib.hid (HD1.out.turnN (only_set (World.grownBy.refl w1 _) 0 (.int .i64 R.2)) (HD1.out.kn.set_ 0 _))
  have HB2 := Lib.hid (below_only HB1.out (only_set (g := b.pn) (World.grownBy.refl w1 _) 0 (.int .i64 R.2)) HD1.out.base HD1.out.ord.le.2.2.2.1)
  go_wp2_with fail
  go_ret
  exact ⟨rfl, HD2.out, HB2.out⟩
set_option maxRecDepth 20000 in
set_option maxHeartbeats 2000000 in
theorem dec6_any (w : World) (b : Bx) (d : Ds) (h : DecB w b d) (hl : d.L.length ≤ 1000) :
    Calls Try.prog 109 #[.pointer (some ⟨b.ps, 0, none⟩), .pointer (some ⟨b.pr, 0, none⟩)] w (RetC b (sigD d) w) := by
  have HD := Lib.hid h
  obtain ⟨R, hR⟩ : ∃ R, someR d.rd 4096 = R := ⟨_, rfl⟩
  have HDE : Hid (sigD d = ({ d with rd := R.1, L := d.L ++ [R.2] }, true)) := by show _ = _; rw [sigD, hR]
  have HR := Lib.hid (rdBytes_any w.drew b.g d.rd (h.drewN 1).rd 4096 (by omega) (by omega))
  rw [hR] at HR
  have HT10 : Hid (∀ v : Value, (dl d.t ++ [Value.int .i64 d.n, v]).length = 10) := by intro v; simp [dl_len, h.ok.len]
  rw [HDE.out]
  obtain ⟨P, Q, c, M, dd, rs, h1, h2, h3, h4, h5⟩ := h.ks
  have hMl : M ≤ 1000 := by
    have e1 := h3.1; rw [List.length_map] at e1
    have : rs.length = d.L.length := by rw [← h5]; simp [bsP]
    omega
  have A1 := Lib.hid h1; have A2 := Lib.hid h2; have A3 := Lib.hid h3; have A4 := Lib.hid h4; have A5 := Lib.hid h5
  obtain ⟨iP, hPi, hPz, hPs, hPb⟩ := info_parts Try.infoSlB
  have HT := Lib.hid h.ok
  clear h hR h1 h2 h3 h4 h5 hl
  go_enter Try.func109, Try.ntmps109
  go_wp2_with fail
  refine wp_region_L [(5, fun w' => Bk w' b.ps 101 (sgC d.n d.t (.slice P d.ps.length c) (.slice Q M dd))), (3, fun w' => Bk w' b.pr 129 [.pointer (some ⟨b.g, 0, none⟩)])] (by kernel_rfl) ⟨fun _ => Bk.drew A1.out, fun _ => Bk.drew HD.out.kr, trivial⟩ (fun hHeld => ?_)
  refine wpAnyL_take0 (i := 0) (v := ?_) rfl (by kernel_rfl) (by kernel_rfl) (by kernel_rfl) (by rfl) (fun _ _ _ h => h) (Or.inl ⟨by rfl, ?_⟩) hHeld ?_
  rotate_left
  · intro w _
    go_simp
    try with_reducible rfl
  clear hHeld
  intro hHeld
  try simp only [Act.put, List.setIfInBounds_toArray, List.set_cons_zero, List.set_cons_succ, List.getElem_toArray, List.getElem_cons_zero, List.getElem_cons_succ]
  refine wpAnyL_take (i := 2) 1 rfl rfl (by kernel_rfl) (by kernel_rfl) (by kernel_rfl) (by kernel_rfl) (by kernel_rfl) (by rfl) (fun _ _ _ h => h) (v := ?_) (Or.inl ⟨by rfl, ?_⟩) hHeld ?_
  rotate_left
  · intro w hSw
    have hcell := (one_cell hSw)
    clear hSw
    go_simp
    try with_reducible rfl
  clear hHeld
  intro hHeld
  try simp only [Act.put, List.setIfInBounds_toArray, List.set_cons_zero, List.set_cons_succ, List.getElem_toArray, List.getElem_cons_zero, List.getElem_cons_succ]
  refine wpAnyL_take (i := 1) 0 rfl rfl (by kernel_rfl) (by kernel_rfl) (by kernel_rfl) (by kernel_rfl) (by kernel_rfl) (by rfl) (fun _ _ _ h => h) (v := ?_) (Or.inl ⟨by rfl, ?_⟩) hHeld ?_
  rotate_left
  · intro w hSw
    have hcell := (sg_mem HT.out hSw).c10
    clear hSw
    go_simp
    try with_reducible rfl
  clear hHeld
  intro hHeld
  try simp only [Act.put, List.setIfInBounds_toArray, List.set_cons_zero, List.set_cons_succ, List.getElem_toArray, List.getElem_cons_zero, List.getElem_cons_succ]
  refine wpAnyL_ready (rs := [3]) (by kernel_rfl) (by simp) ?_
  refine AllReadyL.cons rfl (fun K hK => ?_) AllReadyL.nil
  go_simp
  (go_at_call 72; refine HR.out.mono ?_; rintro e w1 ⟨v, rfl, hown, hr, hg⟩; obtain ⟨P1, c1, rfl⟩ := own_form hown; have HD0 := Lib.hid (HD.out.drewN 1); obtain ⟨xs, hx⟩ := rd_bk HD0.out.rd; have HX := Lib.hid hx; have HD1 := Lib.hid (HD0.out.turnR hg hr); have HB1 := Lib.hid (below_only (below_draws w b.base 1) hg HD0.out.base HD.out.ord.le.1); have HO1 := Lib.hid (own_base (base' := b.pe + 1) hown HD0.out.ke.lt); have B1 := Lib.hid (A1.out.drew.grown hg (by intro h; injection h with h; have := HD.out.ord; obtain ⟨_, _, _, _, _⟩ := this; omega)); have B3 := Lib.hid (own_only (own_keep A3.out (below_draws w _ 1)) hg (own_bk_ne (own_keep A3.out (below_draws w _ 1)) HX.out (by decide))); have B2 := Lib.hid (own_only (own_keep A2.out (below_draws w _ 1)) hg (own_bk_ne (own_keep A2.out (below_draws w _ 1)) HX.out (by decide))); have B4 := Lib.hid ((A4.out.later (below_draws w _ 1)).grown HX.out (by decide) hg); clear hx hown hr hg)
  refine hK.out _ _ (⟨fun _ => B1.out, fun h => dead h (by kernel_rfl), trivial⟩) (fun hHeld => ?_)
  clear hK K
  try simp only [Act.put, List.setIfInBounds_toArray, List.set_cons_zero, List.set_cons_succ, List.getElem_toArray, List.getElem_cons_zero, List.getElem_cons_succ]
  refine wpAnyL_ready (rs := [4]) (by kernel_rfl) (by simp) ?_
  refine AllReadyL.cons rfl (fun K hK => ?_) AllReadyL.nil
  rw [if_pos (by rfl)]
  refine wp_bslice _ 1 _ rfl #[(0, .slice P1 R.2.length c1)] (by simp [Act.eval]) _ _ (bs_p1 P1 R.2.length c1 _) ?_
  obtain ⟨w2, hw2⟩ : ∃ w2, w1.alloc (.cells ([Value.slice P1 R.2.length c1]).toArray 23) = w2 := ⟨_, rfl⟩
  obtain ⟨q7, hq7⟩ : ∃ q, w1.heap.size = q := ⟨_, rfl⟩
  have hbn : Below w1.heap.size w1 w2 := hw2 ▸ below_new w1 _
  have HN2 : Hid (Sl w2 w2.heap.size 1 (some ⟨q7, 0, none⟩) 1 [Value.slice P1 R.2.length c1]) := by
    rw [← hw2, ← hq7]; exact (Bk.new w1 _ _).sl1 rfl (by omega)
  rw [hw2, hq7]
  clear hw2 hq7
  have HD2 := Lib.hid (HD1.out.later hbn); have HB2 := Lib.hid (HB1.out.trans (hbn.mono HD1.out.base)); have HO2 := Lib.hid (own_keep HO1.out hbn)
  have C1 := Lib.hid (B1.out.later hbn); have C2 := Lib.hid (own_keep B2.out hbn); have C3 := Lib.hid (own_keep B3.out hbn); have C4 := Lib.hid (B4.out.later hbn)
  clear hbn
  refine hK.out _ _ ⟨fun _ => C1.out, fun h => dead h (by kernel_rfl), trivial⟩ (fun hHeld => ?_)
  clear hK K
  try simp only [Act.put, List.setIfInBounds_toArray, List.set_cons_zero, List.set_cons_succ, List.getElem_toArray, List.getElem_cons_zero, List.getElem_cons_succ]
  refine wpAnyL_ready (rs := [5]) (by kernel_rfl) (by simp) ?_
  refine AllReadyL.cons rfl (fun K hK => ?_) AllReadyL.nil
  rw [if_pos (by rfl)]
  refine wp_app _ (.tmp 4) (.tmp 7) 90 rfl (b.pe + 1) 23 iP (.slice none 0 0) 1 24 Try.underlying90 hPi hPz hPs hPb rfl (by decide) (.slice Q M dd) M (rs.map Pc.v) rfl C3.out _ _ 1 1 [Value.slice P1 R.2.length c1] rfl HN2.out (by simp [Value.oneCell']) (by unfold maxLen; omega) (by omega) HD2.out.ke.lt ?_
  intro v8 w3 hown hg hat
  obtain ⟨Q8, d8, rfl⟩ := own_form hown
  obtain ⟨np, hnp⟩ : ∃ np : Pc, np = ⟨P1, R.2.length, c1, R.2⟩ := ⟨_, rfl⟩
  have E3 : Hid (w3.ownsRow (b.pe + 1) 23 1 (.slice Q8 (M + 1) d8) (M + 1) ((rs ++ [np]).map Pc.v)) := by show World.ownsRow _ _ _ _ _ _ _; rw [List.map_append, hnp]; exact hown
  have E4 : Hid (PcsOwn w3 (b.pe + 1) (rs ++ [np])) := (C4.out.apart C3.out (by decide) hg).snoc (p := np) (by rw [hnp]; exact own_apart HO2.out C3.out (by decide) hg)
  have E2 := Lib.hid (own_apart C2.out C3.out (by decide) hg)
  have E1 := Lib.hid (bk_apart C1.out C3.out (by have := HD.out.ord.h4; have := HD.out.ord.h5; omega) hg)
  have F1 := Lib.hid (bk_apart HD2.out.kr C3.out (by have := HD.out.ord.h3; have := HD.out.ord.h4; have := HD.out.ord.h5; omega) hg)
  have F2 := Lib.hid (bk_apart HD2.out.kn C3.out (by have := HD.out.ord.h5; omega) hg)
  have F3 := Lib.hid (bk_apart HD2.out.ke C3.out (by omega) hg)
  have F4 := Lib.hid (HD2.out.rd.apart C3.out (by obtain ⟨_, _, _, _, _⟩ := HD.out.ord; omega) (by obtain ⟨_, _, _, _, _⟩ := HD.out.ord; omega) hg)
  have HB3 := Lib.hid (HB2.out.grown hg HD2.out.base (fun k hk => by have := (C3.out.lt k hk).1; have := HD.out.ord.le; omega))
  have HSZ : Hid (b.base ≤ w3.heap.size) := Nat.le_trans HD2.out.base hg.size
  have HL8 : Hid (bsP (rs ++ [np]) = d.L ++ [R.2]) := by show _ = _; rw [hnp, ← A5.out]; simp [bsP]
  refine hK.out _ _ ⟨fun h => dead h (by kernel_rfl), fun h => dead h (by kernel_rfl), trivial⟩ (fun hHeld => ?_)
  clear hK K hown hg hat hnp
  try simp only [Act.put, List.setIfInBounds_toArray, List.set_cons_zero, List.set_cons_succ, List.getElem_toArray, List.getElem_cons_zero, List.getElem_cons_succ]
  refine wpAnyL_take0 (i := 6) (v := ?_) rfl (by kernel_rfl) (by kernel_rfl) (by kernel_rfl) (by rfl) (fun _ _ _ h => h) (Or.inl ⟨by rfl, ?_⟩) hHeld ?_
  rotate_left
  · intro w _
    go_simp
    try with_reducible rfl
  clear hHeld
  intro hHeld
  try simp only [Act.put, List.setIfInBounds_toArray, List.set_cons_zero, List.set_cons_succ, List.getElem_toArray, List.getElem_cons_zero, List.getElem_cons_succ]
  rw [sg_preQ] at E1
  refine wpAnyL_ready (rs := [7]) (by kernel_rfl) (by simp) ?_
  refine AllReadyL.cons rfl (fun K hK => ?_) AllReadyL.nil
  rw [if_pos (by rfl)]
  refine wp_store_part _ _ _ rfl b.ps 10 _ ([.slice Q8 (M + 1) d8]) rfl rfl rfl _ (dl d.t ++ [.int .i64 d.n, .slice P d.ps.length c]) ([.slice Q M dd]) ([]) E1.out (HT10.out _) rfl (by kernel_rfl) (by simp [Value.oneCell']) ?_
  intro w4 hp
  refine hK.out _ _ ⟨fun h => dead h (by kernel_rfl), fun h => dead h (by kernel_rfl), trivial⟩ (fun hHeld => ?_)
  clear hK K
  try simp only [Act.put, List.setIfInBounds_toArray, List.set_cons_zero, List.set_cons_succ, List.getElem_toArray, List.getElem_cons_zero, List.getElem_cons_succ]
  refine wpAnyL_done (by kernel_rfl) ?_ _
  have HS4 : Hid (SgOwn w4 (b.pe + 1) b.ps d.n d.t d.ps (d.L ++ [R.2])) := ⟨P, Q8, c, M + 1, d8, rs ++ [np], by rw [sg_preQ]; exact hp.bk, own_only E2.out hp.only (own_bk_ne E2.out E1.out (by decide)), own_only E3.out hp.only (own_bk_ne E3.out E1.out (by decide)), E4.out.grown E1.out (by decide) hp.only, HL8.out⟩
  have HD4 : Hid (DecB w4 b { d with rd := R.1, L := d.L ++ [R.2] }) := by
    obtain ⟨o1, o2, o3, o4, o5⟩ := HD.out.ord
    exact ⟨HD.out.ord, F1.out.grown hp.only (by intro h; injection h with h; omega), HS4.out, F2.out.grown hp.only (by intro h; injection h with h; omega), F3.out.grown hp.only (by intro h; injection h with h; omega), F4.out.only hp.only (by omega) (by omega), HT.out⟩
  have HB4 := Lib.hid (below_only HB3.out hp.only HSZ.out HD.out.ord.le.2.2.1)
  clear hHeld hp
  go_wp2_with fail
  go_ret
  exact ⟨rfl, HD4.out, HB4.out⟩
/-- copy into a block that is known whole; the new world a letter. -/
theorem wp_copy_bk {P : Program} {o : Oper} {a : Act} {w : World} {K : Act → World → Prop} {Q : Exit → Act → World → Prop} (d s : Operand) (dT sT : TypeId)
    (ho : o.op = .call { callee := .builtin .copy, args := #[d, s], argTypes := #[dT, sT] }) (elem : TypeId) (hu : P.underlying dT = some (.slice elem)) (hsz : (P.info? elem).map (·.size) = some 1)
    (g off : Nat) (sp : Option Addr) (dLen dCap sLen sCap : Nat) (hd : a.eval d = .slice (some ⟨g, off, none⟩) dLen dCap) (hs : a.eval s = .slice sp sLen sCap)
    (cur : List Value) (t : TypeId) (hg : Bk w g t cur) (cs : List Value) (hn : cs.length = Nat.min sLen dLen)
    (hpos : 0 < cs.length → ∃ ad, sp = some ad ∧ ∀ (j : Nat) (v : Value), cs[j]? = some v → w.cell? (ad.add j) = some v)
    (hfit : off + cs.length ≤ cur.length) (h1 : ∀ v ∈ cs, v.oneCell' = true)
    (h : ∀ w', Bk w' g t (splice cur off cs) → w.grownBy w' (some g) → K (a.put o.dst (goInt cs.length)) w') : o.wp P a w K Q := by
  by_cases h0 : cs.length = 0
  · obtain rfl : cs = [] := List.eq_nil_of_length_eq_zero h0
    have hrun := run_copy_none (P := P) w dT sT o.type elem (some ⟨g, off, none⟩) sp dLen dCap sLen sCap hu hsz (by simpa using hn.symm)
    unfold Oper.wp
    simp [execOp, ho, resolve, invoke, builtin, hd, hs, hrun, Result.andThen]
    exact h w (by simpa [splice] using hg) (World.grownBy.refl w _)
  · obtain ⟨ad, rfl, hsrc⟩ := hpos (by omega)
    have hrun := run_copy_row (P := P) w dT sT o.type elem g off dLen dCap ad sLen sCap cur.toArray t cs hu hsz hg hn hsrc (by simpa using hfit) h1
    unfold Oper.wp
    simp [execOp, ho, resolve, invoke, builtin, hd, hs, hrun, Result.andThen]
    refine h _ ?_ ?_
    · show _ = _
      simpa [splice] using setRow_heap w g _ _ t _ hg
    · exact ⟨rfl, rfl, rfl, by simp [World.setRow], fun k hk hne => setRow_other w g k _ (by intro e; subst e; exact hne rfl)⟩
theorem some_len {s : Rd} {most : Int} : (someR s most).2.length ≤ most.toNat := by
  unfold someR
  split
  · split
    · split
      · split
        · rename_i h3 _; simp only [List.length_take]; omega
        · simp
      · simp
    · simp
  · simp
theorem sg_splice {n : Int} {t x : List Int} {p q : Value} (ht : t.length = 8) (hx : x.length ≤ 8) : splice (sgC n t p q) 0 (dl x) = sgC n (x ++ t.drop x.length) p q := by
  have e : (sgC n t p q).drop (dl x).length = (dl (t.drop x.length)) ++ ([.int .i64 n, p] ++ [q]) := by
    rw [sgC, staC, dl_len, List.append_assoc, List.drop_append_of_le_length (by rw [dl_len]; omega), dl, dl, List.map_drop]
  rw [splice, Nat.zero_add, e]
  simp [sgC, staC, dl]
set_option maxRecDepth 20000 in
set_option maxHeartbeats 2000000 in
theorem dec2_any (w : World) (b : Bx) (d : Ds) (h : DecB w b d) :
    Calls Try.prog 105 #[.pointer (some ⟨b.ps, 0, none⟩), .pointer (some ⟨b.pr, 0, none⟩)] w (RetC b (tabD d) w) := by
  have HD := Lib.hid h
  obtain ⟨R, hR⟩ : ∃ R, someR d.rd 8 = R := ⟨_, rfl⟩
  have HRL : Hid (R.2.length ≤ 8) := by have := some_len (s := d.rd) (most := 8); rw [hR] at this; exact this
  have HRO : Hid (ByOk R.2) := by have := some_ok (m := 8) h.rd.ok; rw [hR] at this; exact this
  have HDE : Hid (tabD d = ({ d with rd := R.1, t := R.2 ++ d.t.drop R.2.length }, decide (R.2.length = 8))) := by show _ = _; rw [tabD, hR]
  have HR := Lib.hid (rdBytes_any w.drew b.g d.rd (h.drewN 1).rd 8 (by omega) (by omega))
  rw [hR] at HR
  rw [HDE.out]
  have HT := Lib.hid h.ok
  have HTN : Hid (DgOk (R.2 ++ d.t.drop R.2.length)) := by
    refine ⟨?_, ?_⟩
    · have := HRL.out; have := HT.out.len; simp; omega
    · intro x hx
      rcases List.mem_append.1 hx with hx | hx
      · exact HRO.out x hx
      · exact HT.out.byt x (List.mem_of_mem_drop hx)
  obtain ⟨rl, hrl⟩ : ∃ n, R.2.length = n := ⟨_, rfl⟩
  have HRN := Lib.hid hrl
  clear h hR
  go_enter Try.func105, Try.ntmps105
  go_wp2_with fail
  refine wp_region_held_drew (S := fun w' => Bk w' b.pr 129 [.pointer (some ⟨b.g, 0, none⟩)]) (by kernel_rfl) (Bk.drew HD.out.kr) (fun hHeld => ?_)
  refine wpAnyH_take (i := 0) (v := ?_) rfl (by kernel_rfl) (by kernel_rfl) (by kernel_rfl) (fun _ _ _ h => h) (Or.inl ⟨by rfl, ?_⟩) (by assumption) ?_
  rotate_left
  · intro w hSw
    (try dsimp only at hSw)
    go_simp
    try with_reducible rfl
  try simp only [Act.put, List.setIfInBounds_toArray, List.set_cons_zero, List.set_cons_succ, List.getElem_toArray, List.getElem_cons_zero, List.getElem_cons_succ]
  refine wpAnyH_take (i := 3) (v := ?_) rfl (by kernel_rfl) (by kernel_rfl) (by kernel_rfl) (fun _ _ _ h => h) (Or.inl ⟨by rfl, ?_⟩) (by assumption) ?_
  rotate_left
  · intro w hSw
    have hcell := (one_cell hSw)
    clear hSw
    go_simp
    try with_reducible rfl
  try simp only [Act.put, List.setIfInBounds_toArray, List.set_cons_zero, List.set_cons_succ, List.getElem_toArray, List.getElem_cons_zero, List.getElem_cons_succ]
  refine wpAnyH_take (i := 1) (v := ?_) rfl (by kernel_rfl) (by kernel_rfl) (by kernel_rfl) (fun _ _ _ h => h) (Or.inl ⟨by rfl, ?_⟩) (by assumption) ?_
  rotate_left
  · intro w hSw
    (try dsimp only at hSw)
    go_simp
    try with_reducible rfl
  try simp only [Act.put, List.setIfInBounds_toArray, List.set_cons_zero, List.set_cons_succ, List.getElem_toArray, List.getElem_cons_zero, List.getElem_cons_succ]
  refine wpAnyH_take (i := 2) (v := ?_) rfl (by kernel_rfl) (by kernel_rfl) (by kernel_rfl) (fun _ _ _ h => h) (Or.inl ⟨by rfl, ?_⟩) (by assumption) ?_
  rotate_left
  · intro w hSw
    (try dsimp only at hSw)
    go_simp
    try with_reducible rfl
  try simp only [Act.put, List.setIfInBounds_toArray, List.set_cons_zero, List.set_cons_succ, List.getElem_toArray, List.getElem_cons_zero, List.getElem_cons_succ]
  refine wpAnyH_ready (rs := [4]) (by kernel_rfl) (by simp) ?_
  refine AllReadyH.cons rfl (fun K hK => ?_) AllReadyH.nil
  go_simp
  (go_at_call 72; refine HR.out.mono ?_; rintro e w1 ⟨v, rfl, hown, hr, hg⟩; obtain ⟨P1, c1, rfl⟩ := own_form hown; have HD0 := Lib.hid (HD.out.drewN 1); have HD1 := Lib.hid (HD0.out.turnR hg hr); have HB1 := Lib.hid (below_only (below_draws w b.base 1) hg HD0.out.base HD.out.ord.le.1); have HO1 := Lib.hid (Sl.of_own hown); clear hown hr hg)
  refine hK.out _ _ (HD1.out.kr) (fun hHeld => ?_)
  clear hK K
  try simp only [Act.put, List.setIfInBounds_toArray, List.set_cons_zero, List.set_cons_succ, List.getElem_toArray, List.getElem_cons_zero, List.getElem_cons_succ]
  obtain ⟨P, Q, c, M, dd, rs, h1, h2, h3, h4, h5⟩ := HD1.out.ks
  have A1 := Lib.hid h1; have A2 := Lib.hid h2; have A3 := Lib.hid h3; have A4 := Lib.hid h4; have A5 := Lib.hid h5
  clear h1 h2 h3 h4 h5
  refine wpAnyH_ready (rs := [5]) (by kernel_rfl) (by simp) ?_
  refine AllReadyH.cons rfl (fun K hK => ?_) AllReadyH.nil
  rw [if_pos (by rfl)]
  refine wp_copy_bk (.tmp 5) (.tmp 7) 23 23 rfl 5 Try.underlying23 (by kernel_rfl) b.ps 0 P1 8 8 R.2.length c1 rfl rfl _ 101 A1.out (dl R.2) (by rw [dl_len]; exact (Nat.min_eq_left HRL.out).symm) (fun hp => by obtain ⟨ad, e, _, hc⟩ := HO1.out.mem (by rw [dl_len] at hp; exact hp); exact ⟨ad, e, hc⟩) (by rw [dl_len, sgC_len HT.out]; have := HRL.out; omega) (dl_one' _) ?_
  intro w2 hk2 hg2
  rw [sg_splice HT.out.len HRL.out] at hk2
  have HS2 : Hid (SgOwn w2 (b.pe + 1) b.ps d.n (R.2 ++ d.t.drop R.2.length) d.ps d.L) := ⟨P, Q, c, M, dd, rs, hk2, own_only A2.out hg2 (own_bk_ne A2.out A1.out (by decide)), own_only A3.out hg2 (own_bk_ne A3.out A1.out (by decide)), A4.out.grown A1.out (by decide) hg2, A5.out⟩
  have HD2 := Lib.hid (HD1.out.turnS hg2 HS2.out HTN.out)
  have HB2 := Lib.hid (below_only HB1.out hg2 HD1.out.base HD1.out.ord.le.2.2.1)
  refine hK.out _ _ HD2.out.kr (fun hHeld => ?_)
  clear hK K hk2 hg2
  try simp only [Act.put, List.setIfInBounds_toArray, List.set_cons_zero, List.set_cons_succ, List.getElem_toArray, List.getElem_cons_zero, List.getElem_cons_succ]
  rw [dl_len, HRN.out, show goInt ((rl : Nat) : Int) = .int .i64 (rl : Int) from rfl]
  have HBB : Hid (((rl : Int) == 8) = decide (R.2.length = 8)) := by show _ = _; rw [HRN.out]; by_cases h : rl = 8 <;> simp [h] <;> omega
  obtain ⟨bb, hbb⟩ : ∃ bb, ((rl : Int) == 8) = bb := ⟨_, rfl⟩
  rw [hbb] at HBB
  clear hrl
  refine wpAnyH_take (i := 6) (v := ?_) rfl (by kernel_rfl) (by kernel_rfl) (by kernel_rfl) (fun _ _ _ h => h) (Or.inl ⟨by rfl, ?_⟩) (by assumption) ?_
  rotate_left
  · intro w hSw
    (try dsimp only at hSw)
    go_simp
    try with_reducible rfl
  try simp only [Act.put, List.setIfInBounds_toArray, List.set_cons_zero, List.set_cons_succ, List.getElem_toArray, List.getElem_cons_zero, List.getElem_cons_succ]
  refine wpAnyH_take (i := 7) (v := ?_) rfl (by kernel_rfl) (by kernel_rfl) (by kernel_rfl) (fun _ _ _ h => h) (Or.inl ⟨by rfl, ?_⟩) (by assumption) ?_
  rotate_left
  · intro w hSw
    (try dsimp only at hSw)
    go_simp
    try with_reducible rfl
  try simp only [Act.put, List.setIfInBounds_toArray, List.set_cons_zero, List.set_cons_succ, List.getElem_toArray, List.getElem_cons_zero, List.getElem_cons_succ]
  refine wpAnyH_done (by kernel_rfl) ?_ _
  clear hHeld
  go_wp2_with fail
  go_ret
  exact ⟨by rw [← HBB.out]; rfl, HD2.out, HB2.out⟩
end Go.Proofs.Ythibihjblodfmaa
