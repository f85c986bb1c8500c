/- What is handed in isn't kept: words for the walk of StateOwn. What is handed in isn't kept: the walk of StateOwn. -/
import Derived.Test.YthibihjblodfmaaS30
/-! What is handed in isn't kept: words for the walk of StateOwn. -/
namespace Go.Proofs.Ythibihjblodfmaa
open Go.RowKit Go.Maps

/-- Bytes of the call's own, in a block between two bounds. -/
structure OwnR (w : World) (lo hi : Nat) (v : Value) (n : Nat) (bs : List Int) : Prop where
  own : w.ownsRow lo 5 1 v n (bs.map (.int .u8))
  top : ∀ k, v.ownBlock = some k → k < hi
section
variable {w w' : World} {lo hi n : Nat} {v : Value} {bs : List Int}
theorem OwnR.turn (h : OwnR w lo hi v n bs) {k : Nat} (hg : w.grownBy w' (some k)) (hk : k < lo ∨ hi ≤ k) : OwnR w' lo hi v n bs :=
  ⟨own_only h.own hg (by intro e; have h1 := (h.own.lt k e).1; have h2 := h.top k e; omega), h.top⟩
theorem OwnR.later (h : OwnR w lo hi v n bs) (hb : Below w.heap.size w w') : OwnR w' lo hi v n bs := ⟨own_keep h.own hb, h.top⟩
theorem OwnR.of (h : w.ownsRow lo 5 1 v n (bs.map (.int .u8))) : OwnR w lo w.heap.size v n bs := ⟨h, fun k e => (h.lt k e).2⟩
end
/-- A signed state whose bytes lie in blocks between two bounds. -/
structure SgR (w : World) (lo hi : Nat) (cs : List Value) (n : Int) (t ps : List Int) (L : List (List Int)) : Prop where
  go : ∃ (P Q : Option Addr) (N c M d : Nat) (rs : List Pc), cs = sgC n t (.slice P N c) (.slice Q M d) ∧ OwnR w lo hi (.slice P N c) N ps ∧ w.ownsRow 0 23 1 (.slice Q M d) M (rs.map Pc.v) ∧ (∀ p ∈ rs, OwnR w lo hi p.v p.n p.bs) ∧ bsP rs = L
  ht : DgOk t
  hp : ByOk ps
  hL : ∀ x ∈ L, ByOk x
section
variable {w w' : World} {lo hi : Nat} {cs : List Value} {n : Int} {t ps : List Int} {L : List (List Int)}
theorem SgR.turn (h : SgR w lo hi cs n t ps L) {k : Nat} {xs : List Value} (hg : w.grownBy w' (some k)) (hb : Bk w k 5 xs) (hk : k < lo ∨ hi ≤ k) : SgR w' lo hi cs n t ps L := by
  obtain ⟨⟨P, Q, N, c, M, d, rs, h1, h2, h3, h4, h5⟩, a, b, e⟩ := h
  exact ⟨⟨P, Q, N, c, M, d, rs, h1, h2.turn hg hk, own_only h3 hg (own_bk_ne h3 hb (by decide)), fun p hp => (h4 p hp).turn hg hk, h5⟩, a, b, e⟩
theorem SgR.later (h : SgR w lo hi cs n t ps L) (hb : Below w.heap.size w w') : SgR w' lo hi cs n t ps L := by
  obtain ⟨⟨P, Q, N, c, M, d, rs, h1, h2, h3, h4, h5⟩, a, b, e⟩ := h
  exact ⟨⟨P, Q, N, c, M, d, rs, h1, h2.later hb, own_keep h3 hb, fun p hp => (h4 p hp).later hb, h5⟩, a, b, e⟩
theorem SgR.sgd (h : SgR w lo hi cs n t ps L) : Sgd w cs n t ps L := by
  obtain ⟨⟨P, Q, N, c, M, d, rs, h1, h2, h3, h4, h5⟩, a, b, e⟩ := h
  exact ⟨⟨P, Q, N, c, M, d, rs, h1, Sl.of_own h2.own, Sl.of_own h3, fun p hp => Sl.of_own (h4 p hp).own, h5, fun p hp => own_cap (h4 p hp).own, own_cap h2.own⟩, a, b, e⟩
theorem fewP_same {p : Pc} (hl : p.bs.length = p.n) (h : p.n ≤ 5000) : fewP p = p := by
  unfold fewP
  rw [Nat.min_eq_left h, List.take_of_length_le (by omega)]
theorem fewQ_id {rs : List Pc} (hl : rs.length ≤ 12) (h : ∀ p ∈ rs, p.bs.length = p.n ∧ p.n ≤ 5000) : fewQ rs = rs := by
  unfold fewQ
  rw [List.take_of_length_le hl]
  conv => rhs; rw [← List.map_id rs]
  exact List.map_congr_left fun p hp => fewP_same (h p hp).1 (h p hp).2
theorem plainR (h : SgR w lo hi cs n t ps L) (hs : Small ps L) : Calls Try.prog 52 #[.agg cs.toArray] w fun e w' => ∃ cs1, e = .returned (.tuple #[.agg cs1.toArray, .agg cs1.toArray]) ∧ SgR w' lo hi cs1 n t ps L ∧ Below w.heap.size w w' := by
  obtain ⟨⟨P, Q, N, c, M, d, rs, rfl, h2, h3, h4, rfl⟩, a, b, e⟩ := h
  have hN : N ≤ 5000 := by have := (Sl.of_own h2.own).length; have := hs.p; omega
  have hl : ∀ p ∈ rs, p.bs.length = p.n ∧ p.n ≤ 5000 := fun p hp => by
    have h1 := (Sl.of_own (h4 p hp).own).length
    have h5 := hs.b p.bs (List.mem_map_of_mem hp)
    omega
  refine (plain_any w t a n P Q N c M d (own_cap h2.own) rs (Sl.of_own h3) (fun p hp => own_cap (h4 p hp).own)).mono ?_
  rintro e' w' ⟨Q', cq, rfl, hown, hb⟩
  rw [fewQ_id (by have := hs.l; rwa [bsP_len] at this) hl] at hown
  rw [Nat.min_eq_left hN]
  exact ⟨_, rfl, ⟨⟨P, Q', N, c, min rs.length 12, cq, rs, rfl, h2.later hb, own_base hown (Nat.zero_le _), fun p hp => (h4 p hp).later hb, rfl⟩, a, b, e⟩, hb⟩
end
def RetSO (J : Jn) (w : World) (e : Ending) (w' : World) : Prop := ∃ cs, e = .returned (.tuple #[.agg cs.toArray, .int .i64 J.e]) ∧ SgR w' w.heap.size w'.heap.size cs J.n J.t J.ps J.L ∧ Below w.heap.size w w'
theorem decO {w : World} {A : Option Addr} {n c : Nat} {bs : List Int} (ho : ByOk bs) (hs : Sl w w.heap.size 1 A n (bs.map (.int .u8))) (hn : n ≤ 1073741824) : Calls Try.prog 57 #[.slice A n c] w (RetSO (decRS bs) w) := by
  refine (stDec_any w A n c bs ho hs hn).mono ?_
  rw [decS_eq]
  rintro e w' ⟨P, Q, N, c, M, d, rs, rfl, h1, h2, h3, h4, hb⟩
  obtain ⟨o1, o2, o3, _⟩ := jn_ok ho
  exact ⟨_, rfl, ⟨⟨P, Q, N, c, M, d, rs, rfl, OwnR.of h1, own_base h2 (Nat.zero_le _), fun p hp => OwnR.of (h3 p hp), h4⟩, o1, o2, o3⟩, hb⟩
/-- Pieces of the call's own, whatever they hold. -/
def PcsAny (w : World) (base : Nat) (rs : List Pc) : Prop := ∀ p ∈ rs, ∃ bs : List Int, w.ownsRow base 5 1 p.v p.n (bs.map (.int .u8)) ∧ ByOk bs
theorem PcsAny.later {w w' : World} {base : Nat} {rs : List Pc} (h : PcsAny w base rs) (hb : Below w.heap.size w w') : PcsAny w' base rs := fun p hp => by
  obtain ⟨bs, h1, h2⟩ := h p hp
  exact ⟨bs, own_keep h1 hb, h2⟩
/-- What two that are the same come to. -/
def RetJO (w : World) (e : Ending) (w' : World) : Prop :=
  ∃ (n : Int) (t : List Int) (P Q : Option Addr) (N c M d : Nat) (rs : List Pc), DgOk t ∧ e = .returned (.tuple #[.agg (sgC n t (.slice P N c) (.slice Q M d)).toArray, .int .i64 0]) ∧ w'.ownsRow 0 23 1 (.slice Q M d) M (rs.map Pc.v) ∧ PcsAny w' w.heap.size rs ∧ Below w.heap.size w w'
theorem joinO {w : World} {cs : List Value} {n : Int} {t ps : List Int} {L : List (List Int)} (h : Sgd w cs n t ps L) (hs : Small ps L) : Calls Try.prog 53 #[.agg cs.toArray, .agg cs.toArray] w (RetJO w) := by
  obtain ⟨⟨P, Q, N, c, M, d, rs, rfl, h2, h3, h4, rfl, h6, h7⟩, a, b, e⟩ := h
  have hN := h2.length
  have hM := h3.length
  have hl : ∀ p ∈ rs, p.n ≤ 100000 := fun p hp => by
    have h1 := (h4 p hp).length
    have h5 := hs.b p.bs (List.mem_map_of_mem hp)
    omega
  refine (join2_any w t t a a n n P P Q Q N c N c M d M d ps ps rs rs h2 h2 b b h3 h3 h4 h4 (by have := hs.p; omega) (by have := hs.l; rw [bsP_len] at this; omega) hl hl).mono ?_
  have hJ := joinR_by (t := t) (t' := t) (n := n) (n' := n) (ps := ps) (ps' := ps) (L := bsP rs) (L' := bsP rs) a b e e
  rw [joinR, if_pos (by simp [sameS, eqL]), if_pos rfl] at hJ ⊢
  rintro e' w' ⟨P', Q', N', c', M', d', rs', rfl, k1, k2, k3, k4, hb⟩
  exact ⟨n, t, P', Q', N', c', M', d', rs', a, rfl, own_base k2 (Nat.zero_le _), fun p hp => ⟨p.bs, k3 p hp, hJ.2.2 p.bs (k4 ▸ List.mem_map_of_mem hp)⟩, hb⟩
/-- A byte of a row of the call's own is written. -/
theorem own_byte {w : World} {base n i : Nat} {v : Value} {bs : List Int} (h : w.ownsRow base 5 1 v n (bs.map (.int .u8))) (hb : ByOk bs) (hi : i < n) :
    ∃ (g cap : Nat) (x : Int) (ys : List Value), v = .slice (some ⟨g, 0, none⟩) n cap ∧ base ≤ g ∧ g < w.heap.size ∧ Bk w g 5 ys ∧ w.cell? ⟨g, i, none⟩ = some (.int .u8 x) ∧ w.frozen? ⟨g, i, none⟩ = false ∧
      ∀ y : Int, 0 ≤ y → y < 256 → (∃ cs : List Int, (w.setCell ⟨g, i, none⟩ (.int .u8 y)).ownsRow base 5 1 v n (cs.map (.int .u8)) ∧ ByOk cs) ∧ w.grownBy (w.setCell ⟨g, i, none⟩ (.int .u8 y)) (some g) := by
  have hl : bs.length = n := by have := h.1; simpa using this
  rcases own_bk h with ⟨_, e1, _⟩ | ⟨g, cap, ys, rfl, hg, hbk, hnc, hcm, hly, hty⟩
  · omega
  · have hx : (bs.map (Value.int .u8))[i]? = some (.int .u8 bs[i]) := by rw [List.getElem?_map, List.getElem?_eq_getElem (by omega)]; rfl
    refine ⟨g, cap, bs[i], ys, rfl, hg, hbk.lt, hbk, ?_, hbk.frozen _, fun y y0 y1 => ?_⟩
    · rw [hbk.cell]
      have : ys[i]? = (ys.take (n * 1))[i]? := by rw [List.getElem?_take, if_pos (by omega)]
      rw [this, hty, hx]
    · obtain ⟨_, _, h3, h4⟩ := own_put h i hi (.int .u8 y)
      refine ⟨⟨bs.set i y, by rw [List.map_set]; exact h3, fun z hz => ?_⟩, h4⟩
      rcases List.mem_or_eq_of_mem_set hz with hz | rfl
      · exact hb z hz
      · exact ⟨y0, y1⟩
/-- The others stand as rows too, whatever lies in one block. -/
theorem pcs_byte {w : World} {base g i : Nat} {rs : List Pc} (h : PcsAny w base rs) {y : Int} (y0 : 0 ≤ y) (y1 : y < 256) : PcsAny (w.setCell ⟨g, i, none⟩ (.int .u8 y)) base rs := fun p hp => by
  obtain ⟨bs, h1, h2⟩ := h p hp
  by_cases hg : p.v.ownBlock = some g
  · rcases own_bk h1 with ⟨e1, _, _⟩ | ⟨g', cap, ys, e1, hg', hbk, hnc, hcm, hly, hty⟩
    · rw [e1] at hg; simp [Value.ownBlock] at hg
    · have : g' = g := by rw [e1] at hg; simpa [Value.ownBlock] using hg
      subst this
      by_cases hi : i < p.n
      · obtain ⟨g2, cap2, x, zs, e2, _, _, _, _, _, hw⟩ := own_byte h1 h2 hi
        have : g2 = g' := by rw [e1] at e2; injection e2 with e2; injection e2 with e2; injection e2 with e2; exact e2.symm
        subst this
        obtain ⟨⟨cs, c1, c2⟩, _⟩ := hw y y0 y1
        exact ⟨cs, c1, c2⟩
      · refine ⟨bs, ?_, h2⟩
        have hb' := hbk.set_ i (.int .u8 y)
        rw [e1]
        refine hb'.own hg' hnc hcm (by simp; omega) ?_
        rw [List.take_set_of_le (by omega)]
        exact hty
  · exact ⟨bs, own_only h1 (only_set (World.grownBy.refl w _) i _) hg, h2⟩
end Go.Proofs.Ythibihjblodfmaa

/-! What is handed in isn't kept: the walk of StateOwn. -/
namespace Go.Proofs.Ythibihjblodfmaa
open Go.RowKit Go.Maps

theorem wrap_u8 (z : Int) : IntKind.u8.wrap z = z % 256 := by simp [IntKind.wrap, IntKind.bits, IntKind.signed]
/-- What stands while bytes of others are turned: the decoded one, what two came to. -/
structure OW (w3 : World) (lo hi jb g6 g9 : Nat) (ds jcs : List Value) (rs : List Pc) (Qv : Value) (M : Nat) (n : Int) (t xs : List Int) (K0 : List (List Int)) (wr : World) : Prop where
  ht : SgR wr lo hi ds n t xs K0
  hf : Bk wr g6 101 ds
  hj : Bk wr g9 101 jcs
  hq : wr.ownsRow 0 23 1 Qv M (rs.map Pc.v)
  hp : PcsAny wr jb rs
  hv : Below w3.heap.size w3 wr
section
variable {w3 wr wn : World} {lo hi jb g6 g9 M : Nat} {ds jcs : List Value} {rs : List Pc} {Qv : Value} {n : Int} {t xs : List Int} {K0 : List (List Int)}
theorem OW.later (h : OW w3 lo hi jb g6 g9 ds jcs rs Qv M n t xs K0 wr) (hb : Below wr.heap.size wr wn) : OW w3 lo hi jb g6 g9 ds jcs rs Qv M n t xs K0 wn :=
  ⟨h.ht.later hb, h.hf.later hb, h.hj.later hb, own_keep h.hq hb, h.hp.later hb, h.hv.trans (hb.mono h.hv.size)⟩
theorem OW.byte (h : OW w3 lo hi jb g6 g9 ds jcs rs Qv M n t xs K0 wr) {k i : Nat} {ys : List Value} (hk : Bk wr k 5 ys) (h3 : w3.heap.size ≤ k) (hlh : k < lo ∨ hi ≤ k) {y : Int} (y0 : 0 ≤ y) (y1 : y < 256) :
    OW w3 lo hi jb g6 g9 ds jcs rs Qv M n t xs K0 (wr.setCell ⟨k, i, none⟩ (.int .u8 y)) := by
  have hg : wr.grownBy (wr.setCell ⟨k, i, none⟩ (.int .u8 y)) (some k) := only_set (World.grownBy.refl wr _) i _
  exact ⟨h.ht.turn hg hk hlh, h.hf.far (p := ⟨k, i, none⟩) (h.hf.ne_ hk (by decide)) _, h.hj.far (p := ⟨k, i, none⟩) (h.hj.ne_ hk (by decide)) _, own_only h.hq hg (own_bk_ne h.hq hk (by decide)), pcs_byte h.hp y0 y1, below_only h.hv hg h.hv.size h3⟩
end
set_option maxRecDepth 20000 in
set_option maxHeartbeats 8000000 in
theorem sown_any (w : World) (X : List Value) (n : Int) (t ps : List Int) (L : List (List Int)) (h : Sgd w X n t ps L) (by_ : Int) :
    Calls Try.prog 15 #[.agg X.toArray, .int .u8 by_] w fun e w' => e = .returned (.bool true) ∧ Below w.heap.size w w' := by
  obtain ⟨X0, hX⟩ : ∃ X0, X.toArray = X0 := ⟨_, rfl⟩
  obtain ⟨w1, hw1⟩ : ∃ w1, w.alloc (.cells X0 101) = w1 := ⟨_, rfl⟩
  have hb1 : Below w.heap.size w w1 := hw1 ▸ below_new w _
  have kx : Bk w1 w.heap.size 101 X := hw1 ▸ Bk.new' w _ X0 (by rw [← hX])
  have HW := Lib.hid hw1; have HBB1 := Lib.hid hb1; have HA1 := Lib.hid kx; have HX1 := Lib.hid (h.later hb1)
  have HSM := Lib.hid (fewL_small ps L)
  have HPB := Lib.hid (h.hp.take 5000); have HLB := Lib.hid (fewL_by h.hL); have HTO := Lib.hid h.ht
  have HPL := Lib.hid (plainV HX1.out)
  obtain ⟨xs, hxs⟩ : ∃ x, ps.take 5000 = x := ⟨_, rfl⟩
  obtain ⟨K0, hK⟩ : ∃ x, fewL L = x := ⟨_, rfl⟩
  rw [hxs] at HSM HPB HPL
  rw [hK] at HSM HLB HPL
  rw [hX]
  clear hX hw1 hb1 kx h hxs hK
  go_enter Try.func15, Try.ntmps15
  go_upto_region 1 with fail
  rw [HW.out]
  go_wp2_with (with_reducible refine wpList_load_bk rfl 101 _ rfl w.heap.size rfl X 101 HA1.out _ Try.underlying101 rfl HX1.out.info ?_)
  refine HPL.out.mono ?_
  rintro e w2 ⟨cs, rfl, hsg, hbn⟩
  have HS2 := Lib.hid hsg
  clear hsg
  have HBB2 := Lib.hid (below_then HBB1.out hbn)
  clear hbn
  go_wp2_with (with_reducible refine stop_store 101 _ _ rfl ?_)
  refine StopD.go ?_
  obtain ⟨g3, hg⟩ : ∃ g, w2.heap.size = g := ⟨_, rfl⟩
  have hbn : Below w2.heap.size w2 ((w2.alloc (.cells #[.int .u8 0, .int .u8 0, .int .u8 0, .int .u8 0, .int .u8 0, .int .u8 0, .int .u8 0, .int .u8 0, .int .i64 0, .slice none 0 0, .slice none 0 0] 101)).alloc (.cells #[.int .u8 0, .int .u8 0, .int .u8 0, .int .u8 0, .int .u8 0, .int .u8 0, .int .u8 0, .int .u8 0, .int .i64 0, .slice none 0 0, .slice none 0 0] 105)) := (below_new w2 _).alloc (by simp) _
  have kt : Bk ((w2.alloc (.cells #[.int .u8 0, .int .u8 0, .int .u8 0, .int .u8 0, .int .u8 0, .int .u8 0, .int .u8 0, .int .u8 0, .int .i64 0, .slice none 0 0, .slice none 0 0] 101)).alloc (.cells #[.int .u8 0, .int .u8 0, .int .u8 0, .int .u8 0, .int .u8 0, .int .u8 0, .int .u8 0, .int .u8 0, .int .i64 0, .slice none 0 0, .slice none 0 0] 105)) g3 101 ([] ++ (sgC 0 zeroD (.slice none 0 0) (.slice none 0 0) ++ [])) := by rw [← hg]; exact (Bk.new' w2 _ #[.int .u8 0, .int .u8 0, .int .u8 0, .int .u8 0, .int .u8 0, .int .u8 0, .int .u8 0, .int .u8 0, .int .i64 0, .slice none 0 0, .slice none 0 0] rfl).alloc _
  have ku : Bk ((w2.alloc (.cells #[.int .u8 0, .int .u8 0, .int .u8 0, .int .u8 0, .int .u8 0, .int .u8 0, .int .u8 0, .int .u8 0, .int .i64 0, .slice none 0 0, .slice none 0 0] 101)).alloc (.cells #[.int .u8 0, .int .u8 0, .int .u8 0, .int .u8 0, .int .u8 0, .int .u8 0, .int .u8 0, .int .u8 0, .int .i64 0, .slice none 0 0, .slice none 0 0] 105)) (g3 + 1) 105 (sgC 0 zeroD (.slice none 0 0) (.slice none 0 0)) := by rw [← hg]; exact Bk.at_ _ _ _ (by simp) rfl
  rw [hg]
  refine wpList_store_part rfl 101 _ _ rfl g3 0 (.agg (cs).toArray) (cs) rfl rfl rfl 101 [] _ [] kt rfl (by rw [HS2.out.len]; rfl) HS2.out.info HS2.out.one ?_
  intro wq hp
  have hbn : Below w2.heap.size w2 wq := hbn.grown hp.only hbn.size (fun q hq => by injection hq with hq; omega)
  have kt : Bk wq g3 101 (cs) := by have := hp.bk; simpa using this
  have ku : Bk wq (g3 + 1) 105 ([] ++ (sgC 0 zeroD (.slice none 0 0) (.slice none 0 0) ++ [])) := by have := ku.grown hp.only (by intro h; injection h with h; omega); simpa using this
  clear hp
  go_wp2_with (with_reducible refine stop_store 105 _ _ rfl ?_)
  refine StopD.go ?_
  refine wpList_store_part rfl 105 _ _ rfl (g3 + 1) 0 (.agg (cs).toArray) (cs) rfl rfl rfl 105 [] _ [] ku rfl (by rw [HS2.out.len]; rfl) HS2.out.rinfo HS2.out.one ?_
  intro w3 hp
  have hbn : Below w2.heap.size w2 w3 := hbn.grown hp.only hbn.size (fun q hq => by injection hq with hq; omega)
  have HC3 : Hid (Bk w3 g3 101 (cs)) := kt.grown hp.only (by intro h; injection h with h; omega)
  have HD3 : Hid (Bk w3 (g3 + 1) 105 (cs)) := by show Bk _ _ _ _; have := hp.bk; simpa using this
  clear hp kt ku hg
  have HBB3 := Lib.hid (below_then HBB2.out hbn)
  have HS3 := Lib.hid (HS2.out.later hbn)
  clear hbn
  have HEN := Lib.hid (encV HS3.out)
  obtain ⟨ok, hok⟩ : ∃ b, okG n xs K0 = b := ⟨_, rfl⟩
  have HOK := Lib.hid hok
  rw [hok] at HEN
  clear hok
  go_wp2_with (with_reducible refine wpList_load_bk rfl 101 _ rfl g3 rfl cs 101 HC3.out _ Try.underlying101 rfl HS3.out.info ?_)
  refine HEN.out.mono ?_
  rintro e w4 ⟨v, rfl, hown, hbn⟩
  have HO4 := Lib.hid hown
  clear hown
  cases ok
  · obtain ⟨A4, c4, rfl⟩ := own_form HO4.out
    rw [show (if (false : Bool) = true then (0 : Int) else 2) = 2 from rfl]
    have HBB4 := Lib.hid (below_then HBB3.out hbn)
    clear hbn
    go_wp2_with fail
    refine (stold_any w4).mono ?_
    rintro e w6 ⟨rfl, hbn⟩
    have HBB6 := Lib.hid (below_then HBB4.out hbn)
    clear hbn
    go_wp2_with fail
    go_ret
    exact ⟨rfl, HBB6.out⟩
  · obtain ⟨f0, f1, f2, f3, f4, f5⟩ := okG_facts HOK.out
    have HDE := Lib.hid (dec_told (t := t) (n := n.toNat) HTO.out.len (by omega) f2 f3 f4 f5)
    rw [Int.toNat_of_nonneg f0] at HDE
    have hEL : (encG t n.toNat xs K0).length ≤ 100000 := by
      have h1 := encH_le (t := t) (ps := xs) (n := n.toNat) (M := K0.length) HTO.out
      have h2 := encS_le K0 f5
      rw [encG, List.length_append]; omega
    have HEB : Hid (ByOk (encG t n.toNat xs K0)) := byOk_app (encH_ok HTO.out HPB.out (by omega) (by omega) (by omega)) (encS_ok fun x hx => ⟨HLB.out x hx, f5 x hx⟩)
    have HO5 : Hid (w4.ownsRow w3.heap.size 5 1 v (encG t n.toNat xs K0).length ((encG t n.toNat xs K0).map (.int .u8))) := HO4.out
    have HRE : Hid (∀ w', Sgd w' cs n t xs K0 → Calls Try.prog 61 #[.agg cs.toArray] w' (RetB w'.heap.size (encG t n.toNat xs K0) w')) := fun w' h => rencV h HOK.out
    have HOE : Hid (∀ w' cs, Sgd w' cs n t xs K0 → Calls Try.prog 59 #[.agg cs.toArray] w' (RetE true t n xs K0 w')) := fun w' cs h => by have := encV h; rw [HOK.out] at this; exact this
    have HRE2 : Hid (∀ w' cs, Sgd w' cs n t xs K0 → Calls Try.prog 61 #[.agg cs.toArray] w' (RetB w'.heap.size (encG t n.toNat xs K0) w')) := fun w' cs h => rencV h HOK.out
    unfold RetE at HOE
    have HOE' : Hid (∀ w' cs, Sgd w' cs n t xs K0 → Calls Try.prog 59 #[.agg cs.toArray] w' fun e w2 => ∃ v, e = .returned (.tuple #[v, .int .i64 0]) ∧ OwnB w'.heap.size (encG t n.toNat xs K0) w' v w2) := HOE.out
    obtain ⟨E, hE⟩ : ∃ E, encG t n.toNat xs K0 = E := ⟨_, rfl⟩
    rw [hE] at HO5 HEB hEL HDE HRE2 HOE'
    rw [show (if (true : Bool) = true then (0 : Int) else 2) = 0 from rfl]
    obtain ⟨A4, c4, rfl⟩ := own_form HO5.out
    have HV4 : Hid (Below w3.heap.size w3 w4) := hbn
    have HG3 : Hid (g3 + 1 < w3.heap.size) := HD3.out.lt
    clear f0 f1 f2 f3 f4 f5 hE HO4 HRE HOE
    have HBB4 := Lib.hid (below_then HBB3.out hbn)
    clear hbn
    have HDV := Lib.hid (decO (c := c4) HEB.out (Sl.of_own HO5.out) (by omega))
    rw [HDE.out] at HDV
    go_wp2_with fail
    refine HDV.out.mono ?_
    rintro e w5 ⟨ds, rfl, hsg, hbn⟩
    have HT5 : Hid (SgR w5 w4.heap.size w5.heap.size ds n t xs K0) := hsg
    have HTD5 : Hid (Sgd w5 ds n t xs K0) := HT5.out.sgd
    have HO6 := Lib.hid (own_keep HO5.out hbn)
    have HBB5 := Lib.hid (below_then HBB4.out hbn)
    have HV5 := Lib.hid (HV4.out.trans (hbn.mono HV4.out.size))
    have HZ1 : Hid (w4.heap.size ≤ w5.heap.size) := hbn.size
    have HTB : Hid (∀ k, (Value.slice A4 E.length c4).ownBlock = some k → k < w4.heap.size) := fun k e => (HO5.out.lt k e).2
    clear hsg hbn HO5 HDV
    go_wp2_with (with_reducible refine stop_store 101 _ _ rfl ?_)
    refine StopD.go ?_
    obtain ⟨g6, hg⟩ : ∃ g, w5.heap.size = g := ⟨_, rfl⟩
    have hbn : Below w5.heap.size w5 (w5.alloc (.cells #[.int .u8 0, .int .u8 0, .int .u8 0, .int .u8 0, .int .u8 0, .int .u8 0, .int .u8 0, .int .u8 0, .int .i64 0, .slice none 0 0, .slice none 0 0] 101)) := below_new w5 _
    have kt : Bk (w5.alloc (.cells #[.int .u8 0, .int .u8 0, .int .u8 0, .int .u8 0, .int .u8 0, .int .u8 0, .int .u8 0, .int .u8 0, .int .i64 0, .slice none 0 0, .slice none 0 0] 101)) g6 101 ([] ++ (sgC 0 zeroD (.slice none 0 0) (.slice none 0 0) ++ [])) := by rw [← hg]; exact Bk.new' w5 _ #[.int .u8 0, .int .u8 0, .int .u8 0, .int .u8 0, .int .u8 0, .int .u8 0, .int .u8 0, .int .u8 0, .int .i64 0, .slice none 0 0, .slice none 0 0] rfl
    rw [hg]
    refine wpList_store_part rfl 101 _ _ rfl g6 0 (.agg (ds).toArray) (ds) rfl rfl rfl 101 [] _ [] kt rfl (by rw [HTD5.out.len]; rfl) (HTD5.out.info) HTD5.out.one ?_
    intro w6 hp
    have hbn : Below w5.heap.size w5 w6 := hbn.grown hp.only hbn.size (fun q hq => by injection hq with hq; omega)
    have HF6 : Hid (Bk w6 g6 101 (ds)) := by show Bk _ _ _ _; have := hp.bk; simpa using this
    clear hp kt hg
    have HZ2 : Hid (w5.heap.size ≤ w6.heap.size) := hbn.size
    have HT6 := Lib.hid (HT5.out.later hbn)
    have HO7 := Lib.hid (own_keep HO6.out hbn)
    have HBB6 := Lib.hid (below_then HBB5.out hbn)
    have HV6 := Lib.hid (HV5.out.trans (hbn.mono HV5.out.size))
    clear hbn
    have HC6 := Lib.hid (HC3.out.later HV6.out)
    have HS6 := Lib.hid (HS3.out.later HV6.out)
    go_wp2_with (with_reducible refine wpList_load_bk rfl 101 _ rfl g3 rfl cs 101 HC6.out _ Try.underlying101 rfl HS6.out.info ?_)
    refine (joinO HS6.out HSM.out).mono ?_
    rintro e w7 ⟨jn, jt, jP, jQ, jN, jc, jM, jd, rs, hjt, rfl, hjq, hjp, hbn⟩
    have HJT := Lib.hid hjt
    have HJI := Lib.hid (sg_info (n := jn) (p := .slice jP jN jc) (q := .slice jQ jM jd) hjt)
    obtain ⟨js, hjs⟩ : ∃ js, sgC jn jt (.slice jP jN jc) (.slice jQ jM jd) = js := ⟨_, rfl⟩
    have HJL : Hid (js.length = 11) := by show _ = _; rw [← hjs, sgC_len hjt]
    have HJO : Hid (∀ x ∈ js, x.oneCell' = true) := by show ∀ x ∈ js, _; rw [← hjs]; exact sg_one
    have HJC : Hid (∀ w g, Bk w g 101 js → w.cell? ⟨g, 10, none⟩ = some (.slice jQ jM jd)) := fun w g h => by rw [← hjs] at h; exact (sg_mem hjt h).c10
    rw [hjs] at HJI ⊢
    have HJQ7 := Lib.hid hjq; have HJP7 := Lib.hid hjp
    have HT7 := Lib.hid (HT6.out.later hbn); have HF7 := Lib.hid (HF6.out.later hbn); have HO8 := Lib.hid (own_keep HO7.out hbn)
    have HBB7 := Lib.hid (below_then HBB6.out hbn)
    have HV7 := Lib.hid (HV6.out.trans (hbn.mono HV6.out.size))
    clear hbn hjq hjp hjt hjs
    go_wp2_with (with_reducible refine stop_store 101 _ _ rfl ?_)
    refine StopD.go ?_
    obtain ⟨g9, hg⟩ : ∃ g, w7.heap.size = g := ⟨_, rfl⟩
    have hbn : Below w7.heap.size w7 (w7.alloc (.cells #[.int .u8 0, .int .u8 0, .int .u8 0, .int .u8 0, .int .u8 0, .int .u8 0, .int .u8 0, .int .u8 0, .int .i64 0, .slice none 0 0, .slice none 0 0] 101)) := below_new w7 _
    have kt : Bk (w7.alloc (.cells #[.int .u8 0, .int .u8 0, .int .u8 0, .int .u8 0, .int .u8 0, .int .u8 0, .int .u8 0, .int .u8 0, .int .i64 0, .slice none 0 0, .slice none 0 0] 101)) g9 101 ([] ++ (sgC 0 zeroD (.slice none 0 0) (.slice none 0 0) ++ [])) := by rw [← hg]; exact Bk.new' w7 _ #[.int .u8 0, .int .u8 0, .int .u8 0, .int .u8 0, .int .u8 0, .int .u8 0, .int .u8 0, .int .u8 0, .int .i64 0, .slice none 0 0, .slice none 0 0] rfl
    rw [hg]
    refine wpList_store_part rfl 101 _ _ rfl g9 0 (.agg js.toArray) js rfl rfl rfl 101 [] _ [] kt rfl (by rw [HJL.out]; rfl) HJI.out HJO.out ?_
    intro w8 hp
    have hbn : Below w7.heap.size w7 w8 := hbn.grown hp.only hbn.size (fun q hq => by injection hq with hq; omega)
    have HOW8 : Hid (OW w3 w4.heap.size w5.heap.size w6.heap.size g6 g9 ds js rs (.slice jQ jM jd) jM n t xs K0 w8) := ⟨HT7.out.later hbn, HF7.out.later hbn, by have := hp.bk; simpa using this, own_keep HJQ7.out hbn, HJP7.out.later hbn, HV7.out.trans (hbn.mono HV7.out.size)⟩
    have HO9 := Lib.hid (own_keep HO8.out hbn)
    have HBB8 := Lib.hid (below_then HBB7.out hbn)
    have HIJ : Hid (w5.heap.size ≤ w6.heap.size) := HZ2.out
    have HW3 : Hid (w3.heap.size ≤ w4.heap.size) := HV4.out.size
    have HZ45 : Hid (w4.heap.size ≤ w5.heap.size) := HZ1.out
    have HW0 : Hid (w.heap.size ≤ w3.heap.size) := HBB3.out.size
    clear hp kt hbn hg HT7 HF7 HJQ7 HJP7 HO8 HO7 HT6 HF6 HO6 HTD5 HT5
    go_wp2_with fail
    go_loopw [13] (fun iv wr => ∃ (k : Nat) (zs : List Int), k ≤ E.length ∧ iv = .int .i64 k ∧ Hid (wr.ownsRow w3.heap.size 5 1 (.slice A4 E.length c4) E.length (zs.map (.int .u8))) ∧ Hid (ByOk zs) ∧ Hid (OW w3 w4.heap.size w5.heap.size w6.heap.size g6 g9 ds js rs (.slice jQ jM jd) jM n t xs K0 wr) ∧ Hid (Below w.heap.size w wr)) (fun iv _ => E.length - (intOf iv).toNat)
    case atStart => exact ⟨0, E, Nat.zero_le _, rfl, HO9.out, HEB.out, HOW8.out, HBB8.out⟩
    case round =>
      obtain ⟨k, zs, hk, rfl, HOr, HZr, HOWr, HBr⟩ := hrel
      by_cases hlt : k < E.length
      · have hki : (k : Int) < E.length := by omega
        have hk0 : (0 : Int) ≤ k := by omega
        obtain ⟨g4, cap4, x, ys, e4, hg4, hg4', hbk, hc, hf, hset⟩ := own_byte HOr.out HZr.out hlt
        injection e4 with e4 _ e5
        subst e4; subst e5
        obtain ⟨y, hy⟩ : ∃ y, IntKind.u8.wrap (x + by_) = y := ⟨_, rfl⟩
        have hyr : 0 ≤ y ∧ y < 256 := by rw [← hy, wrap_u8]; omega
        obtain ⟨⟨zs', hz1, hz2⟩, hgr⟩ := hset y hyr.1 hyr.2
        have hgt := HTB.out g4 rfl
        have HOn := Lib.hid hz1; have HZn := Lib.hid hz2
        have HOWn := Lib.hid (HOWr.out.byte (i := k) hbk hg4 (.inl hgt) hyr.1 hyr.2)
        have HBn := Lib.hid (below_only HBr.out hgr HBr.out.size (by have := HW0.out; omega))
        clear hset hz1 hz2 hgr hyr hbk hg4' hgt
        go_wp2_with fail
        go_roundw
        case rel => exact ⟨k + 1, zs', by omega, by go_num, HOn.out, HZn.out, HOWn.out, HBn.out⟩
        case measure => simp [intOf]; omega
      · have hkk : E.length = k := by omega
        subst hkk
        clear HOr HZr
        obtain ⟨w10, hw10⟩ : ∃ w10, w10 = wr := ⟨_, rfl⟩
        subst hw10
        have HOW10 := HOWr; have HBB10 := HBr
        go_wp2_with (with_reducible refine wpList_load_bk rfl 101 _ rfl g6 rfl ds 101 (Lib.hid HOW10.out.hf).out _ Try.underlying101 rfl HOW10.out.ht.sgd.info ?_)
        refine (plainR HOW10.out.ht HSM.out).mono ?_
        rintro e w11 ⟨es, rfl, hsg, hbn⟩
        have HU11 := Lib.hid hsg
        have HUD11 := Lib.hid hsg.sgd
        have HOW11 := Lib.hid (HOW10.out.later hbn)
        have HBB11 := Lib.hid (below_then HBB10.out hbn)
        clear hsg hbn
        go_wp2_with (with_reducible refine stop_store 101 _ _ rfl ?_)
        refine StopD.go ?_
        obtain ⟨g12, hg⟩ : ∃ g, w11.heap.size = g := ⟨_, rfl⟩
        have hbn : Below w11.heap.size w11 ((w11.alloc (.cells #[.int .u8 0, .int .u8 0, .int .u8 0, .int .u8 0, .int .u8 0, .int .u8 0, .int .u8 0, .int .u8 0, .int .i64 0, .slice none 0 0, .slice none 0 0] 101)).alloc (.cells #[.int .u8 0, .int .u8 0, .int .u8 0, .int .u8 0, .int .u8 0, .int .u8 0, .int .u8 0, .int .u8 0, .int .i64 0, .slice none 0 0, .slice none 0 0] 105)) := (below_new w11 _).alloc (by simp) _
        have kt : Bk ((w11.alloc (.cells #[.int .u8 0, .int .u8 0, .int .u8 0, .int .u8 0, .int .u8 0, .int .u8 0, .int .u8 0, .int .u8 0, .int .i64 0, .slice none 0 0, .slice none 0 0] 101)).alloc (.cells #[.int .u8 0, .int .u8 0, .int .u8 0, .int .u8 0, .int .u8 0, .int .u8 0, .int .u8 0, .int .u8 0, .int .i64 0, .slice none 0 0, .slice none 0 0] 105)) g12 101 ([] ++ (sgC 0 zeroD (.slice none 0 0) (.slice none 0 0) ++ [])) := by rw [← hg]; exact (Bk.new' w11 _ #[.int .u8 0, .int .u8 0, .int .u8 0, .int .u8 0, .int .u8 0, .int .u8 0, .int .u8 0, .int .u8 0, .int .i64 0, .slice none 0 0, .slice none 0 0] rfl).alloc _
        have ku : Bk ((w11.alloc (.cells #[.int .u8 0, .int .u8 0, .int .u8 0, .int .u8 0, .int .u8 0, .int .u8 0, .int .u8 0, .int .u8 0, .int .i64 0, .slice none 0 0, .slice none 0 0] 101)).alloc (.cells #[.int .u8 0, .int .u8 0, .int .u8 0, .int .u8 0, .int .u8 0, .int .u8 0, .int .u8 0, .int .u8 0, .int .i64 0, .slice none 0 0, .slice none 0 0] 105)) (g12 + 1) 105 (sgC 0 zeroD (.slice none 0 0) (.slice none 0 0)) := by rw [← hg]; exact Bk.at_ _ _ _ (by simp) rfl
        rw [hg]
        refine wpList_store_part rfl 101 _ _ rfl g12 0 (.agg (es).toArray) (es) rfl rfl rfl 101 [] _ [] kt rfl (by rw [HUD11.out.len]; rfl) HUD11.out.info HUD11.out.one ?_
        intro wq hp
        have hbn : Below w11.heap.size w11 wq := hbn.grown hp.only hbn.size (fun q hq => by injection hq with hq; omega)
        have kt : Bk wq g12 101 (es) := by have := hp.bk; simpa using this
        have ku : Bk wq (g12 + 1) 105 ([] ++ (sgC 0 zeroD (.slice none 0 0) (.slice none 0 0) ++ [])) := by have := ku.grown hp.only (by intro h; injection h with h; omega); simpa using this
        clear hp
        go_wp2_with (with_reducible refine stop_store 105 _ _ rfl ?_)
        refine StopD.go ?_
        refine wpList_store_part rfl 105 _ _ rfl (g12 + 1) 0 (.agg (es).toArray) (es) rfl rfl rfl 105 [] _ [] ku rfl (by rw [HUD11.out.len]; rfl) HUD11.out.rinfo HUD11.out.one ?_
        intro w12 hp
        have hbn : Below w11.heap.size w11 w12 := hbn.grown hp.only hbn.size (fun q hq => by injection hq with hq; omega)
        have HI12 : Hid (Bk w12 g12 101 (es)) := kt.grown hp.only (by intro h; injection h with h; omega)
        have HK12 : Hid (Bk w12 (g12 + 1) 105 (es)) := by show Bk _ _ _ _; have := hp.bk; simpa using this
        clear hp kt ku hg
        have HU12 := Lib.hid (HU11.out.later hbn); have HOW12 := Lib.hid (HOW11.out.later hbn)
        have HBB12 := Lib.hid (below_then HBB11.out hbn)
        have HD12 := Lib.hid (HD3.out.later HOW12.out.hv)
        have HS12 := Lib.hid (HS3.out.later HOW12.out.hv)
        clear hbn HI12 HUD11 HU11
        go_wp2_with (first
          | (with_reducible refine wpList_load_bk rfl 105 _ rfl (g12 + 1) rfl es 105 HK12.out _ Try.underlying105 rfl HU12.out.sgd.rinfo ?_)
          | (with_reducible refine wpList_load_bk rfl 105 _ rfl (g3 + 1) rfl cs 105 HD12.out _ Try.underlying105 rfl HS12.out.rinfo ?_))
        refine (rsameV HU12.out.sgd HS12.out).mono ?_
        rw [sameG_self]
        rintro e w13 ⟨rfl, hbn⟩
        have HU13 := Lib.hid (HU12.out.later hbn); have HOW13 := Lib.hid (HOW12.out.later hbn); have HK13 := Lib.hid (HK12.out.later hbn)
        have HBB13 := Lib.hid (below_then HBB12.out hbn)
        clear hbn HU12 HOW12 HK12 HD12 HS12
        go_wp2_with fail
        go_loopw [17, 18] (fun iv _ wr => ∃ (k : Nat), k ≤ jM ∧ iv = .int .i64 k ∧ Hid (OW w3 w4.heap.size w5.heap.size w6.heap.size g6 g9 ds js rs (.slice jQ jM jd) jM n t xs K0 wr) ∧ Hid (SgR wr w4.heap.size w5.heap.size es n t xs K0) ∧ Hid (Bk wr (g12 + 1) 105 es) ∧ Hid (Below w.heap.size w wr)) (fun iv _ _ => jM - (intOf iv).toNat)
        case atStart => exact ⟨0, Nat.zero_le _, rfl, HOW13.out, HU13.out, HK13.out, HBB13.out⟩
        case round =>
          obtain ⟨k, hk, rfl, HOWs, HUs, HKs, HBs⟩ := hrel
          have hcj := HJC.out _ _ HOWs.out.hj
          have hjM := (Sl.of_own HOWs.out.hq).le
          by_cases hlt : k < jM
          · have hki : (k : Int) < jM := by omega
            have hk0 : (0 : Int) ≤ k := by omega
            obtain ⟨b, o, p, rfl, hpk, _, hcc⟩ := pc_at (Sl.of_own HOWs.out.hq) hlt
            have HPK := Lib.hid hpk
            have HPI : Hid (∀ w' : World, w'.ownsRow 0 23 1 (.slice (some ⟨b, o, none⟩) jM jd) jM (rs.map Pc.v) → w'.cell? ⟨b, o + k, none⟩ = some (.slice p.A p.n p.c)) := fun w' h' => by
              obtain ⟨b', o', p', e', hp', _, hc'⟩ := pc_at (Sl.of_own h') hlt
              injection e' with e'; injection e' with e1 e2; subst e1; subst e2
              rw [HPK.out] at hp'; injection hp' with hp'; subst hp'; exact hc'
            clear hpk
            go_wp2_with fail
            go_loopw [18] (fun iv wr => ∃ (m : Nat), m ≤ p.n ∧ iv = .int .i64 m ∧ Hid (OW w3 w4.heap.size w5.heap.size w6.heap.size g6 g9 ds js rs (.slice (some ⟨b, o, none⟩) jM jd) jM n t xs K0 wr) ∧ Hid (SgR wr w4.heap.size w5.heap.size es n t xs K0) ∧ Hid (Bk wr (g12 + 1) 105 es) ∧ Hid (Below w.heap.size w wr)) (fun iv _ => p.n - (intOf iv).toNat)
            case atStart => exact ⟨0, Nat.zero_le _, rfl, HOWs.out, HUs.out, HKs.out, HBs.out⟩
            case round =>
              clear hcj hcc HOWs HUs HKs HBs
              obtain ⟨m, hm, rfl, HOWs, HUs, HKs, HBs⟩ := hrel
              have hcj := HJC.out _ _ HOWs.out.hj
              have hcc := HPI.out _ HOWs.out.hq
              by_cases hlm : m < p.n
              · have hmi : (m : Int) < p.n := by omega
                have hm0 : (0 : Int) ≤ m := by omega
                have HOWd := Lib.hid (HOWs.out.later (below_draws wr _ 1))
                obtain ⟨ks, hk1, hk2⟩ := HOWd.out.hp p (List.mem_of_getElem? HPK.out)
                have hpl := (Sl.of_own hk1).le
                obtain ⟨gp, cap, x, ys, ep, hgp, _, hbk, hc, hf, hset⟩ := own_byte hk1 hk2 hlm
                obtain ⟨pA, pn, pc, pb⟩ := p
                injection ep with e1 e2 e3
                dsimp only at e1 e2 e3 hcc hlm hmi hm hpl HPI
                subst e1; subst e3
                obtain ⟨y, hy⟩ : ∃ y, IntKind.u8.wrap (x + by_) = y := ⟨_, rfl⟩
                have hyr : 0 ≤ y ∧ y < 256 := by rw [← hy, wrap_u8]; omega
                obtain ⟨_, hgr⟩ := hset y hyr.1 hyr.2
                have HOWn := Lib.hid (HOWd.out.byte (i := m) hbk (by have := HIJ.out; have := HZ45.out; have := HW3.out; omega) (.inr (by have := HIJ.out; omega)) hyr.1 hyr.2)
                have HUn := Lib.hid ((HUs.out.later (below_draws wr _ 1)).turn hgr hbk (.inr (by have := HIJ.out; omega)))
                have HKn := Lib.hid ((HKs.out.drewN 1).far (p := ⟨gp, m, none⟩) ((HKs.out.drewN 1).ne_ hbk (by decide)) (.int .u8 y))
                have HBn := Lib.hid (below_only (HBs.out.trans (below_draws wr _ 1)) hgr (by have := HBs.out.size; exact this) (by have := HIJ.out; have := HZ45.out; have := HW3.out; have := HW0.out; omega))
                clear hset hgr hyr hk1 hk2 hbk
                go_wp2_with fail
                refine wp_region_L [(17, fun w' => w'.cell? ⟨g9, 10, none⟩ = some (.slice (some ⟨b, o, none⟩) jM jd)), (17, fun w' => w'.cell? ⟨b, o + k, none⟩ = some (.slice (some ⟨gp, 0, none⟩) pn pc)), (17, fun w' => w'.cell? ⟨gp, m, none⟩ = some (.int .u8 x))] (by kernel_rfl) ⟨fun _ => hcj, fun _ => hcc, fun _ => hc, trivial⟩ (fun hHeld => ?_)
                refine wpAnyL_take0 (i := 0) (v := ?_) rfl (by kernel_rfl) (by kernel_rfl) (by kernel_rfl) (by rfl) (fun _ _ _ h => h) (Or.inl ⟨by rfl, ?_⟩) hHeld ?_
                rotate_left
                · intro w _
                  go_simp
                  try with_reducible rfl
                clear hHeld
                intro hHeld
                try simp only [Act.put, List.setIfInBounds_toArray, List.set_cons_zero, List.set_cons_succ, List.getElem_toArray, List.getElem_cons_zero, List.getElem_cons_succ]
                refine wpAnyL_take0 (i := 2) (v := ?_) rfl (by kernel_rfl) (by kernel_rfl) (by kernel_rfl) (by rfl) (fun _ _ _ h => h) (Or.inl ⟨by rfl, ?_⟩) hHeld ?_
                rotate_left
                · intro w _
                  go_simp
                  try with_reducible rfl
                clear hHeld
                intro hHeld
                try simp only [Act.put, List.setIfInBounds_toArray, List.set_cons_zero, List.set_cons_succ, List.getElem_toArray, List.getElem_cons_zero, List.getElem_cons_succ]
                refine wpAnyL_take0 (i := 5) (v := ?_) rfl (by kernel_rfl) (by kernel_rfl) (by kernel_rfl) (by rfl) (fun _ _ _ h => h) (Or.inl ⟨by rfl, ?_⟩) hHeld ?_
                rotate_left
                · intro w _
                  go_simp
                  try with_reducible rfl
                clear hHeld
                intro hHeld
                try simp only [Act.put, List.setIfInBounds_toArray, List.set_cons_zero, List.set_cons_succ, List.getElem_toArray, List.getElem_cons_zero, List.getElem_cons_succ]
                refine wpAnyL_take0 (i := 6) (v := ?_) rfl (by kernel_rfl) (by kernel_rfl) (by kernel_rfl) (by rfl) (fun _ _ _ h => h) (Or.inl ⟨by rfl, ?_⟩) hHeld ?_
                rotate_left
                · intro w _
                  go_simp
                  try with_reducible rfl
                clear hHeld
                intro hHeld
                try simp only [Act.put, List.setIfInBounds_toArray, List.set_cons_zero, List.set_cons_succ, List.getElem_toArray, List.getElem_cons_zero, List.getElem_cons_succ]
                refine wpAnyL_take0 (i := 8) (v := ?_) rfl (by kernel_rfl) (by kernel_rfl) (by kernel_rfl) (by rfl) (fun _ _ _ h => h) (Or.inl ⟨by rfl, ?_⟩) hHeld ?_
                rotate_left
                · intro w _
                  go_simp
                  try with_reducible rfl
                clear hHeld
                intro hHeld
                try simp only [Act.put, List.setIfInBounds_toArray, List.set_cons_zero, List.set_cons_succ, List.getElem_toArray, List.getElem_cons_zero, List.getElem_cons_succ]
                refine wpAnyL_take0 (i := 11) (v := ?_) rfl (by kernel_rfl) (by kernel_rfl) (by kernel_rfl) (by rfl) (fun _ _ _ h => h) (Or.inl ⟨by rfl, ?_⟩) hHeld ?_
                rotate_left
                · intro w _
                  go_simp
                  try with_reducible rfl
                clear hHeld
                intro hHeld
                try simp only [Act.put, List.setIfInBounds_toArray, List.set_cons_zero, List.set_cons_succ, List.getElem_toArray, List.getElem_cons_zero, List.getElem_cons_succ]
                refine wpAnyL_take0 (i := 14) (v := ?_) rfl (by kernel_rfl) (by kernel_rfl) (by kernel_rfl) (by rfl) (fun _ _ _ h => h) (Or.inl ⟨by rfl, ?_⟩) hHeld ?_
                rotate_left
                · intro w _
                  go_simp
                  try with_reducible rfl
                clear hHeld
                intro hHeld
                try simp only [Act.put, List.setIfInBounds_toArray, List.set_cons_zero, List.set_cons_succ, List.getElem_toArray, List.getElem_cons_zero, List.getElem_cons_succ]
                refine wpAnyL_take (i := 1) 0 rfl rfl (by kernel_rfl) (by kernel_rfl) (by kernel_rfl) (by kernel_rfl) (by kernel_rfl) (by rfl) (fun _ _ _ h => h) (v := ?_) (Or.inl ⟨by rfl, ?_⟩) hHeld ?_
                rotate_left
                · intro w hSw
                  have hcell := hSw
                  clear hSw
                  go_simp
                  try with_reducible rfl
                clear hHeld
                intro hHeld
                try simp only [Act.put, List.setIfInBounds_toArray, List.set_cons_zero, List.set_cons_succ, List.getElem_toArray, List.getElem_cons_zero, List.getElem_cons_succ]
                refine wpAnyL_take (i := 7) 0 rfl rfl (by kernel_rfl) (by kernel_rfl) (by kernel_rfl) (by kernel_rfl) (by kernel_rfl) (by rfl) (fun _ _ _ h => h) (v := ?_) (Or.inl ⟨by rfl, ?_⟩) hHeld ?_
                rotate_left
                · intro w hSw
                  have hcell := hSw
                  clear hSw
                  go_simp
                  try with_reducible rfl
                clear hHeld
                intro hHeld
                try simp only [Act.put, List.setIfInBounds_toArray, List.set_cons_zero, List.set_cons_succ, List.getElem_toArray, List.getElem_cons_zero, List.getElem_cons_succ]
                refine wpAnyL_take0 (i := 3) (v := ?_) rfl (by kernel_rfl) (by kernel_rfl) (by kernel_rfl) (by rfl) (fun _ _ _ h => h) (Or.inl ⟨by rfl, ?_⟩) hHeld ?_
                rotate_left
                · intro w _
                  go_simp
                  try with_reducible rfl
                clear hHeld
                intro hHeld
                try simp only [Act.put, List.setIfInBounds_toArray, List.set_cons_zero, List.set_cons_succ, List.getElem_toArray, List.getElem_cons_zero, List.getElem_cons_succ]
                refine wpAnyL_take0 (i := 9) (v := ?_) rfl (by kernel_rfl) (by kernel_rfl) (by kernel_rfl) (by rfl) (fun _ _ _ h => h) (Or.inl ⟨by rfl, ?_⟩) hHeld ?_
                rotate_left
                · intro w _
                  go_simp
                  try with_reducible rfl
                clear hHeld
                intro hHeld
                try simp only [Act.put, List.setIfInBounds_toArray, List.set_cons_zero, List.set_cons_succ, List.getElem_toArray, List.getElem_cons_zero, List.getElem_cons_succ]
                refine wpAnyL_take (i := 4) 1 rfl rfl (by kernel_rfl) (by kernel_rfl) (by kernel_rfl) (by kernel_rfl) (by kernel_rfl) (by rfl) (fun _ _ _ h => h) (v := ?_) (Or.inl ⟨by rfl, ?_⟩) hHeld ?_
                rotate_left
                · intro w hSw
                  have hcell := hSw
                  clear hSw
                  go_simp
                  try with_reducible rfl
                clear hHeld
                intro hHeld
                try simp only [Act.put, List.setIfInBounds_toArray, List.set_cons_zero, List.set_cons_succ, List.getElem_toArray, List.getElem_cons_zero, List.getElem_cons_succ]
                refine wpAnyL_take (i := 10) 1 rfl rfl (by kernel_rfl) (by kernel_rfl) (by kernel_rfl) (by kernel_rfl) (by kernel_rfl) (by rfl) (fun _ _ _ h => h) (v := ?_) (Or.inl ⟨by rfl, ?_⟩) hHeld ?_
                rotate_left
                · intro w hSw
                  have hcell := hSw
                  clear hSw
                  go_simp
                  try with_reducible rfl
                clear hHeld
                intro hHeld
                try simp only [Act.put, List.setIfInBounds_toArray, List.set_cons_zero, List.set_cons_succ, List.getElem_toArray, List.getElem_cons_zero, List.getElem_cons_succ]
                refine wpAnyL_take0 (i := 12) (v := ?_) rfl (by kernel_rfl) (by kernel_rfl) (by kernel_rfl) (by rfl) (fun _ _ _ h => h) (Or.inl ⟨by rfl, ?_⟩) hHeld ?_
                rotate_left
                · intro w _
                  go_simp
                  try with_reducible rfl
                clear hHeld
                intro hHeld
                try simp only [Act.put, List.setIfInBounds_toArray, List.set_cons_zero, List.set_cons_succ, List.getElem_toArray, List.getElem_cons_zero, List.getElem_cons_succ]
                refine wpAnyL_take (i := 13) 2 rfl rfl (by kernel_rfl) (by kernel_rfl) (by kernel_rfl) (by kernel_rfl) (by kernel_rfl) (by rfl) (fun _ _ _ h => h) (v := ?_) (Or.inl ⟨by rfl, ?_⟩) hHeld ?_
                rotate_left
                · intro w hSw
                  have hcell := hSw
                  clear hSw
                  go_simp
                  try with_reducible rfl
                clear hHeld
                intro hHeld
                try simp only [Act.put, List.setIfInBounds_toArray, List.set_cons_zero, List.set_cons_succ, List.getElem_toArray, List.getElem_cons_zero, List.getElem_cons_succ]
                refine wpAnyL_take0 (i := 15) (v := ?_) rfl (by kernel_rfl) (by kernel_rfl) (by kernel_rfl) (by rfl) (fun _ _ _ h => h) (Or.inl ⟨by rfl, ?_⟩) hHeld ?_
                rotate_left
                · intro w _
                  go_simp
                  try with_reducible rfl
                clear hHeld
                intro hHeld
                try simp only [Act.put, List.setIfInBounds_toArray, List.set_cons_zero, List.set_cons_succ, List.getElem_toArray, List.getElem_cons_zero, List.getElem_cons_succ]
                refine wpAnyL_take0 (i := 16) (v := ?_) rfl (by kernel_rfl) (by kernel_rfl) (by kernel_rfl) (by rfl) (fun _ _ _ h => h) (Or.inl ⟨by rfl, ?_⟩) hHeld ?_
                rotate_left
                · intro w _
                  go_simp
                  try with_reducible rfl
                clear hHeld
                intro hHeld
                try simp only [Act.put, List.setIfInBounds_toArray, List.set_cons_zero, List.set_cons_succ, List.getElem_toArray, List.getElem_cons_zero, List.getElem_cons_succ]
                refine wpAnyL_ready (rs := [17]) (by kernel_rfl) (by simp) ?_
                refine AllReadyL.cons rfl (fun K hK => ?_) AllReadyL.nil
                have hc' : wr.cell? ⟨gp, m, none⟩ = some (.int .u8 x) := hc
                have hf' : wr.frozen? ⟨gp, m, none⟩ = false := hf
                go_simp
                refine hK.out _ _ ⟨fun h => dead h (by kernel_rfl), fun h => dead h (by kernel_rfl), fun h => dead h (by kernel_rfl), trivial⟩ (fun hHeld => ?_)
                clear hK K
                try simp only [Act.put, List.setIfInBounds_toArray, List.set_cons_zero, List.set_cons_succ, List.getElem_toArray, List.getElem_cons_zero, List.getElem_cons_succ]
                refine wpAnyL_done (by kernel_rfl) ?_ _
                clear hHeld
                go_wp2_with fail
                go_roundw
                case rel => exact ⟨m + 1, by omega, by go_num, HOWn.out, HUn.out, HKn.out, HBn.out⟩
                case measure => simp [intOf]; omega
              · have hmm : p.n = m := by omega
                subst hmm
                go_wp2_with fail
                go_roundw
                case rel => exact ⟨k + 1, by omega, by go_num, HOWs.out, HUs.out, HKs.out, HBs.out⟩
                case measure => simp [intOf]; omega
          · have hkk : jM = k := by omega
            subst hkk
            obtain ⟨w14, hw14⟩ : ∃ w14, w14 = wr := ⟨_, rfl⟩
            subst hw14
            have HBB14 := HBs; have HK14 := HKs; have HU14 := HUs
            have HC14 := Lib.hid (HC3.out.later HOWs.out.hv)
            have HS14 := Lib.hid (HS3.out.later HOWs.out.hv)
            go_wp2_with (with_reducible refine wpList_load_bk rfl 101 _ rfl g3 rfl cs 101 HC14.out _ Try.underlying101 rfl HS14.out.info ?_)
            refine (plainV HS14.out).mono ?_
            obtain ⟨s1, s2⟩ := fewL_same HSM.out
            rw [s1, s2]
            rintro e w15 ⟨zs, rfl, hsg, hbn⟩
            have HZ15 := Lib.hid hsg
            clear hsg s1 s2 hcj
            have HBB15 := Lib.hid (below_then HBB14.out hbn)
            have HK15 := Lib.hid (HK14.out.later hbn)
            have HU15 := Lib.hid (HU14.out.later hbn)
            have HC15 := Lib.hid (HC14.out.later hbn)
            have HS15 := Lib.hid (HS14.out.later hbn)
            clear hbn
            go_wp2_with (with_reducible refine stop_store 101 _ _ rfl ?_)
            refine StopD.go ?_
            obtain ⟨g16, hg⟩ : ∃ g, w15.heap.size = g := ⟨_, rfl⟩
            have hbn : Below w15.heap.size w15 ((w15.alloc (.cells #[.int .u8 0, .int .u8 0, .int .u8 0, .int .u8 0, .int .u8 0, .int .u8 0, .int .u8 0, .int .u8 0, .int .i64 0, .slice none 0 0, .slice none 0 0] 101)).alloc (.cells #[.int .u8 0, .int .u8 0, .int .u8 0, .int .u8 0, .int .u8 0, .int .u8 0, .int .u8 0, .int .u8 0, .int .i64 0, .slice none 0 0, .slice none 0 0] 105)) := (below_new w15 _).alloc (by simp) _
            have kt : Bk ((w15.alloc (.cells #[.int .u8 0, .int .u8 0, .int .u8 0, .int .u8 0, .int .u8 0, .int .u8 0, .int .u8 0, .int .u8 0, .int .i64 0, .slice none 0 0, .slice none 0 0] 101)).alloc (.cells #[.int .u8 0, .int .u8 0, .int .u8 0, .int .u8 0, .int .u8 0, .int .u8 0, .int .u8 0, .int .u8 0, .int .i64 0, .slice none 0 0, .slice none 0 0] 105)) g16 101 ([] ++ (sgC 0 zeroD (.slice none 0 0) (.slice none 0 0) ++ [])) := by rw [← hg]; exact (Bk.new' w15 _ #[.int .u8 0, .int .u8 0, .int .u8 0, .int .u8 0, .int .u8 0, .int .u8 0, .int .u8 0, .int .u8 0, .int .i64 0, .slice none 0 0, .slice none 0 0] rfl).alloc _
            have ku : Bk ((w15.alloc (.cells #[.int .u8 0, .int .u8 0, .int .u8 0, .int .u8 0, .int .u8 0, .int .u8 0, .int .u8 0, .int .u8 0, .int .i64 0, .slice none 0 0, .slice none 0 0] 101)).alloc (.cells #[.int .u8 0, .int .u8 0, .int .u8 0, .int .u8 0, .int .u8 0, .int .u8 0, .int .u8 0, .int .u8 0, .int .i64 0, .slice none 0 0, .slice none 0 0] 105)) (g16 + 1) 105 (sgC 0 zeroD (.slice none 0 0) (.slice none 0 0)) := by rw [← hg]; exact Bk.at_ _ _ _ (by simp) rfl
            rw [hg]
            refine wpList_store_part rfl 101 _ _ rfl g16 0 (.agg (zs).toArray) (zs) rfl rfl rfl 101 [] _ [] kt rfl (by rw [HZ15.out.len]; rfl) HZ15.out.info HZ15.out.one ?_
            intro wq hp
            have hbn : Below w15.heap.size w15 wq := hbn.grown hp.only hbn.size (fun q hq => by injection hq with hq; omega)
            have kt : Bk wq g16 101 (zs) := by have := hp.bk; simpa using this
            have ku : Bk wq (g16 + 1) 105 ([] ++ (sgC 0 zeroD (.slice none 0 0) (.slice none 0 0) ++ [])) := by have := ku.grown hp.only (by intro h; injection h with h; omega); simpa using this
            clear hp
            go_wp2_with (with_reducible refine stop_store 105 _ _ rfl ?_)
            refine StopD.go ?_
            refine wpList_store_part rfl 105 _ _ rfl (g16 + 1) 0 (.agg (zs).toArray) (zs) rfl rfl rfl 105 [] _ [] ku rfl (by rw [HZ15.out.len]; rfl) HZ15.out.rinfo HZ15.out.one ?_
            intro w16 hp
            have hbn : Below w15.heap.size w15 w16 := hbn.grown hp.only hbn.size (fun q hq => by injection hq with hq; omega)
            have HM16 : Hid (Bk w16 g16 101 (zs)) := kt.grown hp.only (by intro h; injection h with h; omega)
            have HN16 : Hid (Bk w16 (g16 + 1) 105 (zs)) := by show Bk _ _ _ _; have := hp.bk; simpa using this
            clear hp kt ku hg
            have HBB16 := Lib.hid (below_then HBB15.out hbn)
            have HK16 := Lib.hid (HK15.out.later hbn)
            have HU16 := Lib.hid (HU15.out.later hbn)
            have HC16 := Lib.hid (HC15.out.later hbn)
            have HS16 := Lib.hid (HS15.out.later hbn)
            have HZ16 := Lib.hid (HZ15.out.later hbn)
            clear hbn
            go_wp2_with (with_reducible refine wpList_load_bk rfl 101 _ rfl g3 rfl cs 101 HC16.out _ Try.underlying101 rfl HS16.out.info ?_)
            refine (HOE'.out w16 cs HS16.out).mono ?_
            rintro e w17 ⟨v17, rfl, hown⟩
            have hbn : Below w16.heap.size w16 w17 := hown.2
            obtain ⟨A17, c17, rfl⟩ := hown.form
            have hcs : Sl w17 w17.heap.size 1 A17 E.length (E.map (.int .u8)) := Sl.of_own hown.1
            clear hown
            have HBB17 := Lib.hid (below_then HBB16.out hbn)
            have HK17 := Lib.hid (HK16.out.later hbn)
            have HU17 := Lib.hid (HU16.out.later hbn)
            have HZ17 := Lib.hid (HZ16.out.later hbn)
            have HN17 := Lib.hid (HN16.out.later hbn)
            clear hbn
            obtain ⟨B17, hB17⟩ : ∃ B, w17.heap.size = B := ⟨_, rfl⟩
            rw [hB17] at hcs
            have HES17 := Lib.hid hcs
            have HBW17 : Hid (B17 ≤ w17.heap.size) := by show _ ≤ _; omega
            clear hcs hB17
            go_wp2_with fail
            refine wp_region_held_drew (S := fun w' => Bk w' (g12 + 1) 105 es ∧ Bk w' (g16 + 1) 105 zs ∧ Sl w' B17 1 A17 E.length (E.map (.int .u8))) (by kernel_rfl) ⟨Bk.drew HK17.out, Bk.drew HN17.out, HES17.out.drew⟩ (fun hHeld => ?_)
            refine wpAnyH_ready (rs := [0]) (by kernel_rfl) (by simp) ?_
            refine AllReadyH.cons rfl (fun K hK => ?_) AllReadyH.nil
            go_simp
            (go_at_call 45; refine (stold_any w17.drew).mono ?_; rintro e w18 ⟨rfl, hbn⟩; have hbn := (below_draws w17 _ 1).trans hbn; have HES18 := Lib.hid (HES17.out.below (hbn.mono HBW17.out)); have HBW18 : Hid (B17 ≤ w18.heap.size) := Nat.le_trans HBW17.out hbn.size; have HBB18 := Lib.hid (below_then HBB17.out hbn); have HK18 := Lib.hid (HK17.out.later hbn); have HU18 := Lib.hid (HU17.out.later hbn); have HZ18 := Lib.hid (HZ17.out.later hbn); have HN18 := Lib.hid (HN17.out.later hbn); clear hbn)
            refine hK.out _ _ (⟨HK18.out, HN18.out, HES18.out⟩) (fun hHeld => ?_)
            clear hK K
            try simp only [Act.put, List.setIfInBounds_toArray, List.set_cons_zero, List.set_cons_succ, List.getElem_toArray, List.getElem_cons_zero, List.getElem_cons_succ]
            refine wpAnyH_take (i := 1) (v := ?_) rfl (by kernel_rfl) (by kernel_rfl) (by kernel_rfl) (fun _ _ _ h => h) (Or.inl ⟨by rfl, ?_⟩) (by assumption) ?_
            rotate_left
            · intro w hSw
              (try dsimp only at hSw)
              go_simp
              try with_reducible rfl
            try simp only [Act.put, List.setIfInBounds_toArray, List.set_cons_zero, List.set_cons_succ, List.getElem_toArray, List.getElem_cons_zero, List.getElem_cons_succ]
            refine wpAnyH_take (i := 2) (v := ?_) rfl (by kernel_rfl) (by kernel_rfl) (by kernel_rfl) (fun _ _ _ h => h) (Or.inl ⟨by rfl, ?_⟩) (by assumption) ?_
            rotate_left
            · intro w hSw
              (try dsimp only at hSw)
              go_simp
              try with_reducible rfl
            try simp only [Act.put, List.setIfInBounds_toArray, List.set_cons_zero, List.set_cons_succ, List.getElem_toArray, List.getElem_cons_zero, List.getElem_cons_succ]
            refine wpAnyH_take (i := 3) (v := ?_) rfl (by kernel_rfl) (by kernel_rfl) (by kernel_rfl) (fun _ _ _ h => h) (Or.inl ⟨by rfl, ?_⟩) (by assumption) ?_
            rotate_left
            · intro w hSw
              (try dsimp only at hSw)
              go_simp
              try with_reducible rfl
            try simp only [Act.put, List.setIfInBounds_toArray, List.set_cons_zero, List.set_cons_succ, List.getElem_toArray, List.getElem_cons_zero, List.getElem_cons_succ]
            refine wpAnyH_take (i := 4) (v := ?_) rfl (by kernel_rfl) (by kernel_rfl) (by kernel_rfl) (fun _ _ _ h => h) (Or.inl ⟨by rfl, ?_⟩) (by assumption) ?_
            rotate_left
            · intro w hSw
              (try dsimp only at hSw)
              go_simp
              try with_reducible rfl
            try simp only [Act.put, List.setIfInBounds_toArray, List.set_cons_zero, List.set_cons_succ, List.getElem_toArray, List.getElem_cons_zero, List.getElem_cons_succ]
            refine wpAnyH_take (i := 5) (v := ?_) rfl (by kernel_rfl) (by kernel_rfl) (by kernel_rfl) (fun _ _ _ h => h) (Or.inl ⟨by rfl, ?_⟩) (by assumption) ?_
            rotate_left
            · intro w hSw
              (try dsimp only at hSw)
              go_simp
              try with_reducible rfl
            try simp only [Act.put, List.setIfInBounds_toArray, List.set_cons_zero, List.set_cons_succ, List.getElem_toArray, List.getElem_cons_zero, List.getElem_cons_succ]
            refine wpAnyH_take (i := 6) (v := ?_) rfl (by kernel_rfl) (by kernel_rfl) (by kernel_rfl) (fun _ _ _ h => h) (Or.inl ⟨by rfl, ?_⟩) (by assumption) ?_
            rotate_left
            · intro w hSw
              (try dsimp only at hSw)
              go_simp
              try with_reducible rfl
            try simp only [Act.put, List.setIfInBounds_toArray, List.set_cons_zero, List.set_cons_succ, List.getElem_toArray, List.getElem_cons_zero, List.getElem_cons_succ]
            refine wpAnyH_take (i := 7) (v := ?_) rfl (by kernel_rfl) (by kernel_rfl) (by kernel_rfl) (fun _ _ _ h => h) (Or.inl ⟨by rfl, ?_⟩) (by assumption) ?_
            rotate_left
            · intro w hSw
              (try dsimp only at hSw)
              go_simp
              try with_reducible rfl
            try simp only [Act.put, List.setIfInBounds_toArray, List.set_cons_zero, List.set_cons_succ, List.getElem_toArray, List.getElem_cons_zero, List.getElem_cons_succ]
            refine wpAnyH_take (i := 8) (v := ?_) rfl (by kernel_rfl) (by kernel_rfl) (by kernel_rfl) (fun _ _ _ h => h) (Or.inl ⟨by rfl, ?_⟩) (by assumption) ?_
            rotate_left
            · intro w hSw
              (try dsimp only at hSw)
              go_simp
              try with_reducible rfl
            try simp only [Act.put, List.setIfInBounds_toArray, List.set_cons_zero, List.set_cons_succ, List.getElem_toArray, List.getElem_cons_zero, List.getElem_cons_succ]
            refine wpAnyH_take (i := 9) (v := ?_) rfl (by kernel_rfl) (by kernel_rfl) (by kernel_rfl) (fun _ _ _ h => h) (Or.inl ⟨by rfl, ?_⟩) (by assumption) ?_
            rotate_left
            · intro w hSw
              (try dsimp only at hSw)
              go_simp
              try with_reducible rfl
            try simp only [Act.put, List.setIfInBounds_toArray, List.set_cons_zero, List.set_cons_succ, List.getElem_toArray, List.getElem_cons_zero, List.getElem_cons_succ]
            refine wpAnyH_take (i := 10) (v := ?_) rfl (by kernel_rfl) (by kernel_rfl) (by kernel_rfl) (fun _ _ _ h => h) (Or.inl ⟨by rfl, ?_⟩) (by assumption) ?_
            rotate_left
            · intro w hSw
              (try dsimp only at hSw)
              go_simp
              try with_reducible rfl
            try simp only [Act.put, List.setIfInBounds_toArray, List.set_cons_zero, List.set_cons_succ, List.getElem_toArray, List.getElem_cons_zero, List.getElem_cons_succ]
            refine wpAnyH_take (i := 11) (v := ?_) rfl (by kernel_rfl) (by kernel_rfl) (by kernel_rfl) (fun _ _ _ h => h) (Or.inl ⟨by rfl, ?_⟩) (by assumption) ?_
            rotate_left
            · intro w hSw
              (try dsimp only at hSw)
              go_simp
              try with_reducible rfl
            try simp only [Act.put, List.setIfInBounds_toArray, List.set_cons_zero, List.set_cons_succ, List.getElem_toArray, List.getElem_cons_zero, List.getElem_cons_succ]
            refine wpAnyH_take (i := 12) (v := ?_) rfl (by kernel_rfl) (by kernel_rfl) (by kernel_rfl) (fun _ _ _ h => h) (Or.inl ⟨by rfl, ?_⟩) (by assumption) ?_
            rotate_left
            · intro w hSw
              (try dsimp only at hSw)
              go_simp
              try with_reducible rfl
            try simp only [Act.put, List.setIfInBounds_toArray, List.set_cons_zero, List.set_cons_succ, List.getElem_toArray, List.getElem_cons_zero, List.getElem_cons_succ]
            refine wpAnyH_take (i := 13) (v := ?_) rfl (by kernel_rfl) (by kernel_rfl) (by kernel_rfl) (fun _ _ _ h => h) (Or.inl ⟨by rfl, ?_⟩) (by assumption) ?_
            rotate_left
            · intro w hSw
              (try dsimp only at hSw)
              go_simp
              try with_reducible rfl
            try simp only [Act.put, List.setIfInBounds_toArray, List.set_cons_zero, List.set_cons_succ, List.getElem_toArray, List.getElem_cons_zero, List.getElem_cons_succ]
            refine wpAnyH_take (i := 14) (v := ?_) rfl (by kernel_rfl) (by kernel_rfl) (by kernel_rfl) (fun _ _ _ h => h) (Or.inl ⟨by rfl, ?_⟩) (by assumption) ?_
            rotate_left
            · intro w hSw
              (try dsimp only at hSw)
              go_simp
              try with_reducible rfl
            try simp only [Act.put, List.setIfInBounds_toArray, List.set_cons_zero, List.set_cons_succ, List.getElem_toArray, List.getElem_cons_zero, List.getElem_cons_succ]
            refine wpAnyH_take (i := 15) (v := ?_) rfl (by kernel_rfl) (by kernel_rfl) (by kernel_rfl) (fun _ _ _ h => h) (Or.inl ⟨by rfl, ?_⟩) (by assumption) ?_
            rotate_left
            · intro w hSw
              (try dsimp only at hSw)
              go_simp
              try with_reducible rfl
            try simp only [Act.put, List.setIfInBounds_toArray, List.set_cons_zero, List.set_cons_succ, List.getElem_toArray, List.getElem_cons_zero, List.getElem_cons_succ]
            refine wpAnyH_take (i := 16) (v := ?_) rfl (by kernel_rfl) (by kernel_rfl) (by kernel_rfl) (fun _ _ _ h => h) (Or.inl ⟨by rfl, ?_⟩) (by assumption) ?_
            rotate_left
            · intro w hSw
              (try dsimp only at hSw)
              go_simp
              try with_reducible rfl
            try simp only [Act.put, List.setIfInBounds_toArray, List.set_cons_zero, List.set_cons_succ, List.getElem_toArray, List.getElem_cons_zero, List.getElem_cons_succ]
            refine wpAnyH_take (i := 17) (v := ?_) rfl (by kernel_rfl) (by kernel_rfl) (by kernel_rfl) (fun _ _ _ h => h) (Or.inl ⟨by rfl, ?_⟩) (by assumption) ?_
            rotate_left
            · intro w hSw
              (try dsimp only at hSw)
              go_simp
              try with_reducible rfl
            try simp only [Act.put, List.setIfInBounds_toArray, List.set_cons_zero, List.set_cons_succ, List.getElem_toArray, List.getElem_cons_zero, List.getElem_cons_succ]
            refine wpAnyH_take (i := 19) (v := .agg (List.toArray (zs))) rfl (by kernel_rfl) (by kernel_rfl) (by kernel_rfl) (fun _ _ _ h => h) (yieldsIf_load_mid (by rfl) _ _ rfl _ _ rfl (zs) _ (fun w hSw => (Bk.range (pre := []) (post := []) (by simpa using hSw.2.1) rfl)) Try.underlying105 rfl (HZ18.out.rinfo)) (by assumption) ?_
            try simp only [Act.put, List.setIfInBounds_toArray, List.set_cons_zero, List.set_cons_succ, List.getElem_toArray, List.getElem_cons_zero, List.getElem_cons_succ]
            refine wpAnyH_take (i := 18) (v := ?_) rfl (by kernel_rfl) (by kernel_rfl) (by kernel_rfl) (fun _ _ _ h => h) (Or.inl ⟨by rfl, ?_⟩) (by assumption) ?_
            rotate_left
            · intro w hSw
              have hcell := (conv_any w _ _ _ c17 E hSw.2.2)
              clear hSw
              go_simp
              try with_reducible rfl
            try simp only [Act.put, List.setIfInBounds_toArray, List.set_cons_zero, List.set_cons_succ, List.getElem_toArray, List.getElem_cons_zero, List.getElem_cons_succ]
            refine wpAnyH_ready (rs := [20]) (by kernel_rfl) (by simp) ?_
            refine AllReadyH.cons rfl (fun K hK => ?_) AllReadyH.nil
            go_simp
            (go_at_call 61; refine (HRE2.out w18 zs HZ18.out).mono ?_; rintro e w19 ⟨v19, rfl, hown⟩; have hbn : Below w18.heap.size w18 w19 := hown.2; obtain ⟨A19, c19, rfl⟩ := hown.form; have hcv := conv_any w19 _ A19 E.length c19 E (Sl.of_own hown.1); have HES19 := Lib.hid (HES18.out.below (hbn.mono HBW18.out)); have HBW19 : Hid (B17 ≤ w19.heap.size) := Nat.le_trans HBW18.out hbn.size; clear hown; have HBB19 := Lib.hid (below_then HBB18.out hbn); have HK19 := Lib.hid (HK18.out.later hbn); have HU19 := Lib.hid (HU18.out.later hbn); have HZ19 := Lib.hid (HZ18.out.later hbn); have HN19 := Lib.hid (HN18.out.later hbn); clear hbn)
            refine hK.out _ _ (⟨HK19.out, HN19.out, HES19.out⟩) (fun hHeld => ?_)
            clear hK K
            try simp only [Act.put, List.setIfInBounds_toArray, List.set_cons_zero, List.set_cons_succ, List.getElem_toArray, List.getElem_cons_zero, List.getElem_cons_succ]
            have hst : ((strOf E).toList == (strOf E).toList) = true := by simp
            obtain ⟨s, hs⟩ : ∃ s, strOf E = s := ⟨_, rfl⟩
            rw [hs] at hcv hst ⊢
            refine wpAnyH_ready (rs := [21]) (by kernel_rfl) (by simp) ?_
            refine AllReadyH.cons rfl (fun K hK => ?_) AllReadyH.nil
            go_simp
            skip
            refine hK.out _ _ (⟨HK19.out, HN19.out, HES19.out⟩) (fun hHeld => ?_)
            clear hK K
            try simp only [Act.put, List.setIfInBounds_toArray, List.set_cons_zero, List.set_cons_succ, List.getElem_toArray, List.getElem_cons_zero, List.getElem_cons_succ]
            clear hcv hs
            refine wpAnyH_take (i := 22) (v := ?_) rfl (by kernel_rfl) (by kernel_rfl) (by kernel_rfl) (fun _ _ _ h => h) (Or.inl ⟨by rfl, ?_⟩) (by assumption) ?_
            rotate_left
            · intro w hSw
              (try dsimp only at hSw)
              go_simp
              try with_reducible rfl
            try simp only [Act.put, List.setIfInBounds_toArray, List.set_cons_zero, List.set_cons_succ, List.getElem_toArray, List.getElem_cons_zero, List.getElem_cons_succ]
            refine wpAnyH_take (i := 23) (v := ?_) rfl (by kernel_rfl) (by kernel_rfl) (by kernel_rfl) (fun _ _ _ h => h) (Or.inl ⟨by rfl, ?_⟩) (by assumption) ?_
            rotate_left
            · intro w hSw
              (try dsimp only at hSw)
              go_simp
              try with_reducible rfl
            try simp only [Act.put, List.setIfInBounds_toArray, List.set_cons_zero, List.set_cons_succ, List.getElem_toArray, List.getElem_cons_zero, List.getElem_cons_succ]
            refine wpAnyH_take (i := 24) (v := ?_) rfl (by kernel_rfl) (by kernel_rfl) (by kernel_rfl) (fun _ _ _ h => h) (Or.inl ⟨by rfl, ?_⟩) (by assumption) ?_
            rotate_left
            · intro w hSw
              (try dsimp only at hSw)
              go_simp
              try with_reducible rfl
            try simp only [Act.put, List.setIfInBounds_toArray, List.set_cons_zero, List.set_cons_succ, List.getElem_toArray, List.getElem_cons_zero, List.getElem_cons_succ]
            refine wpAnyH_take (i := 25) (v := .agg (List.toArray (zs))) rfl (by kernel_rfl) (by kernel_rfl) (by kernel_rfl) (fun _ _ _ h => h) (yieldsIf_load_mid (by rfl) _ _ rfl _ _ rfl (zs) _ (fun w hSw => (Bk.range (pre := []) (post := []) (by simpa using hSw.2.1) rfl)) Try.underlying105 rfl (HZ19.out.rinfo)) (by assumption) ?_
            try simp only [Act.put, List.setIfInBounds_toArray, List.set_cons_zero, List.set_cons_succ, List.getElem_toArray, List.getElem_cons_zero, List.getElem_cons_succ]
            refine wpAnyH_take (i := 26) (v := .agg (List.toArray (es))) rfl (by kernel_rfl) (by kernel_rfl) (by kernel_rfl) (fun _ _ _ h => h) (yieldsIf_load_mid (by rfl) _ _ rfl _ _ rfl (es) _ (fun w hSw => (Bk.range (pre := []) (post := []) (by simpa using hSw.1) rfl)) Try.underlying105 rfl (HU19.out.sgd.rinfo)) (by assumption) ?_
            try simp only [Act.put, List.setIfInBounds_toArray, List.set_cons_zero, List.set_cons_succ, List.getElem_toArray, List.getElem_cons_zero, List.getElem_cons_succ]
            refine wpAnyH_ready (rs := [27]) (by kernel_rfl) (by simp) ?_
            refine AllReadyH.cons rfl (fun K hK => ?_) AllReadyH.nil
            go_simp
            (go_at_call 55; refine (rsameV HZ19.out HU19.out.sgd).mono ?_; rw [sameG_self]; rintro e w20 ⟨rfl, hbn⟩; have HES20 := Lib.hid (HES19.out.below (hbn.mono HBW19.out)); have HBB20 := Lib.hid (below_then HBB19.out hbn); have HK20 := Lib.hid (HK19.out.later hbn); have HN20 := Lib.hid (HN19.out.later hbn); clear hbn)
            refine hK.out _ _ (⟨HK20.out, HN20.out, HES20.out⟩) (fun hHeld => ?_)
            clear hK K
            try simp only [Act.put, List.setIfInBounds_toArray, List.set_cons_zero, List.set_cons_succ, List.getElem_toArray, List.getElem_cons_zero, List.getElem_cons_succ]
            refine wpAnyH_take (i := 28) (v := ?_) rfl (by kernel_rfl) (by kernel_rfl) (by kernel_rfl) (fun _ _ _ h => h) (Or.inl ⟨by rfl, ?_⟩) (by assumption) ?_
            rotate_left
            · intro w hSw
              (try dsimp only at hSw)
              go_simp
              try with_reducible rfl
            try simp only [Act.put, List.setIfInBounds_toArray, List.set_cons_zero, List.set_cons_succ, List.getElem_toArray, List.getElem_cons_zero, List.getElem_cons_succ]
            refine wpAnyH_take (i := 29) (v := ?_) rfl (by kernel_rfl) (by kernel_rfl) (by kernel_rfl) (fun _ _ _ h => h) (Or.inl ⟨by rfl, ?_⟩) (by assumption) ?_
            rotate_left
            · intro w hSw
              (try dsimp only at hSw)
              go_simp
              try with_reducible rfl
            try simp only [Act.put, List.setIfInBounds_toArray, List.set_cons_zero, List.set_cons_succ, List.getElem_toArray, List.getElem_cons_zero, List.getElem_cons_succ]
            refine wpAnyH_done (by kernel_rfl) ?_ _
            clear hHeld
            go_wp2_with fail
            go_ret
            exact ⟨rfl, HBB20.out⟩
end Go.Proofs.Ythibihjblodfmaa
