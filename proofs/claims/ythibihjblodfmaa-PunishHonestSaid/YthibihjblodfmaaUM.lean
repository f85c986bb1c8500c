/- Who signs one thing of a place is never shown: what stands while things are signed. -/
import Derived.Test.YthibihjblodfmaaUG
import Derived.Test.YthibihjblodfmaaUK
namespace Go.Proofs.Ythibihjblodfmaa
open Go.RowKit Go.Maps

section
variable {w wk wn : World} {lo g n : Nat} {v u v' : Value} {ys zs : List (List Value × Tg)} {es : List Ent} {xs : List Value}
theorem FI.other (h : FI w wk lo g v ys es) (ho : wk.ownsRow lo 35 30 u n xs) (hg : wk.grownBy wn u.ownBlock) (hne : ∀ q, u.ownBlock = some q → v.ownBlock ≠ some q) : FI w wn lo g v ys es := by
  refine ⟨?_, fun x hx => (h.th x hx).own ho hg (by decide), h.bk.own ho hg (by decide) (by decide), grown_below h.hb ho hg h.wl h.hb.size, Nat.le_trans h.lh hg.size, h.wl⟩
  cases hq : u.ownBlock with
  | none => rw [hq] at hg; exact own_keep h.row (grown_none hg)
  | some q => rw [hq] at hg; exact own_only h.row hg (hne q hq)
theorem FI.put (h : FI w wk lo g v ys es) {nb : Nat} {cs cs' : List Value} (hp : Put wk wn nb 35 cs') (hx : Bk wk nb 35 cs) (hn : v.ownBlock ≠ some nb) (hl : lo ≤ nb) : FI w wn lo g v ys es :=
  ⟨own_only h.row hp.only hn, fun x hx' => (h.th x hx').grown hp.only hx (by decide), h.bk.put hp hx (by decide) (by decide), below_only h.hb hp.only h.hb.size (Nat.le_trans h.wl hl), Nat.le_trans h.lh hp.only.size, h.wl⟩
/-- Two rows of things: all, and the own ones. -/
structure FH (w wk : World) (lo g : Nat) (v u : Value) (ys zs : List (List Value × Tg)) (es : List Ent) : Prop where
  fi : FI w wk lo g v ys es
  row : wk.ownsRow lo 35 30 u zs.length (zs.map (·.1)).flatten
  th : ∀ z ∈ zs, ThK w wk z.1 z.2
  ne : ∀ q, v.ownBlock = some q → u.ownBlock ≠ some q
theorem own_lt {base size : Nat} {e : TypeId} (h : wk.ownsRow base e size v n xs) : ∀ q, v.ownBlock = some q → q < wk.heap.size := fun q hq => by
  rcases own_bk h with ⟨rfl, _⟩ | ⟨q', cap, ys, rfl, _, hb, _⟩
  · simp [Value.ownBlock] at hq
  · have : q' = q := by simpa [Value.ownBlock] using hq
    subst this; exact hb.lt
theorem FH.later (h : FH w wk lo g v u ys zs es) (hb : Below wk.heap.size wk wn) : FH w wn lo g v u ys zs es :=
  ⟨h.fi.later hb, own_keep h.row hb, fun z hz => (h.th z hz).later hb, h.ne⟩
theorem FH.sign (h : FH w wk lo g v u ys zs es) {es' : List Ent} (hk : Keeps wk wn) (hb : Below lo wk wn) (hbk : BookAt wn lo g es') : FH w wn lo g v u ys zs es' :=
  ⟨h.fi.sign hk hb hbk, own_keeps h.row hk (by decide) (by decide), fun z hz => (h.th z hz).keeps hk, h.ne⟩
theorem FH.put (h : FH w wk lo g v u ys zs es) {nb : Nat} {cs cs' : List Value} (hp : Put wk wn nb 35 cs') (hx : Bk wk nb 35 cs) (hv : v.ownBlock ≠ some nb) (hu : u.ownBlock ≠ some nb) (hl : lo ≤ nb) : FH w wn lo g v u ys zs es :=
  ⟨h.fi.put hp hx hv hl, own_only h.row hp.only hu, fun z hz => (h.th z hz).grown hp.only hx (by decide), h.ne⟩
theorem FH.appV (h : FH w wk lo g v u ys zs es) {y : List Value × Tg} (hy : ThK w wk y.1 y.2) (ho : wn.ownsRow lo 35 30 v' (ys.length + 1) ((ys.map (·.1)).flatten ++ y.1)) (hg : wk.grownBy wn v.ownBlock) (hat : v'.ownBlock = v.ownBlock ∨ v'.ownBlock = some wk.heap.size) : FH w wn lo g v' u (ys ++ [y]) zs es := by
  refine ⟨h.fi.app hy ho hg, ?_, fun z hz => (h.th z hz).own h.fi.row hg (by decide), fun q hq => ?_⟩
  · cases hq : v.ownBlock with
    | none => rw [hq] at hg; exact own_keep h.row (grown_none hg)
    | some q => rw [hq] at hg; exact own_only h.row hg (h.ne q hq)
  · rcases hat with e | e
    · exact h.ne q (e ▸ hq)
    · rw [e] at hq
      injection hq with hq
      intro hu
      have := own_lt h.row q hu
      omega
theorem FH.appU (h : FH w wk lo g v u ys zs es) {y : List Value × Tg} (hy : ThK w wk y.1 y.2) (ho : wn.ownsRow lo 35 30 v' (zs.length + 1) ((zs.map (·.1)).flatten ++ y.1)) (hg : wk.grownBy wn u.ownBlock) (hat : v'.ownBlock = u.ownBlock ∨ v'.ownBlock = some wk.heap.size) : FH w wn lo g v v' ys (zs ++ [y]) es := by
  refine ⟨h.fi.other h.row hg (fun q hq hv => h.ne q hv hq), by simpa using ho, fun z hz => ?_, fun q hq => ?_⟩
  · rcases List.mem_append.1 hz with hz | hz
    · exact (h.th z hz).own h.row hg (by decide)
    · simp at hz; subst hz
      exact hy.own h.row hg (by decide)
  · rcases hat with e | e
    · rw [e]; exact h.ne q hq
    · rw [e]
      intro hq'
      injection hq' with hq'
      have := own_lt h.fi.row q hq
      omega
/-- The next own thing. -/
structure NX (w wk : World) (lo g : Nat) (v u : Value) (ys zs : List (List Value × Tg)) (es : List Ent) (nb : Nat) (cs : List Value) (T : Tg) : Prop where
  fh : FH w wk lo g v u ys zs es
  nx : Bk wk nb 35 cs
  th : ThK w wk cs T
  nv : v.ownBlock ≠ some nb
  nu : u.ownBlock ≠ some nb
  lb : lo ≤ nb
variable {nb : Nat} {cs cs' : List Value} {T T' : Tg}
theorem NX.later (h : NX w wk lo g v u ys zs es nb cs T) (hb : Below wk.heap.size wk wn) : NX w wn lo g v u ys zs es nb cs T :=
  ⟨h.fh.later hb, h.nx.later hb, h.th.later hb, h.nv, h.nu, h.lb⟩
theorem NX.sign (h : NX w wk lo g v u ys zs es nb cs T) {es' : List Ent} (hk : Keeps wk wn) (hb : Below lo wk wn) (hbk : BookAt wn lo g es') : NX w wn lo g v u ys zs es' nb cs T :=
  ⟨h.fh.sign hk hb hbk, h.nx.keeps hk (by decide) (by decide), h.th.keeps hk, h.nv, h.nu, h.lb⟩
theorem NX.put (h : NX w wk lo g v u ys zs es nb cs T) (hp : Put wk wn nb 35 cs') (ht : ThK w wn cs' T') : NX w wn lo g v u ys zs es nb cs' T' :=
  ⟨h.fh.put hp h.nx h.nv h.nu h.lb, hp.bk, ht, h.nv, h.nu, h.lb⟩
theorem NX.appU (h : NX w wk lo g v u ys zs es nb cs T) (ho : wn.ownsRow lo 35 30 v' (zs.length + 1) ((zs.map (·.1)).flatten ++ cs)) (hg : wk.grownBy wn u.ownBlock) (hat : v'.ownBlock = u.ownBlock ∨ v'.ownBlock = some wk.heap.size) : NX w wn lo g v v' ys (zs ++ [(cs, T)]) es nb cs T := by
  refine ⟨h.fh.appU (y := (cs, T)) h.th ho hg hat, h.nx.grown hg (Ne.symm h.nu), h.th.own h.fh.row hg (by decide), h.nv, ?_, h.lb⟩
  rcases hat with e | e
  · rw [e]; exact h.nu
  · rw [e]
    intro e
    injection e with e
    have := h.nx.lt
    omega
/-- While the next one is made. -/
structure SN (w wk : World) (lo g : Nat) (v u : Value) (ys zs : List (List Value × Tg)) (es : List Ent) (z : Nat) (ca : List Value) (z0 : Nat) : Prop where
  fh : FH w wk lo g v u ys zs es
  d : Bk wk z 70 ca
  vb : ∀ q, v.ownBlock = some q → q < z0
  ub : ∀ q, u.ownBlock = some q → q < z0
  sz : z0 ≤ wk.heap.size
  lz : lo ≤ z0
variable {z z0 gt : Nat} {ca : List Value}
theorem SN.later (h : SN w wk lo g v u ys zs es z ca z0) (hb : Below wk.heap.size wk wn) : SN w wn lo g v u ys zs es z ca z0 :=
  ⟨h.fh.later hb, h.d.later hb, h.vb, h.ub, Nat.le_trans h.sz hb.size, h.lz⟩
theorem SN.put (h : SN w wk lo g v u ys zs es z ca z0) {xs ts : List Value} (hp : Put wk wn gt 35 ts) (hx : Bk wk gt 35 xs) (hz : z0 ≤ gt) : SN w wn lo g v u ys zs es z ca z0 :=
  ⟨h.fh.put hp hx (fun e => by have := h.vb _ e; omega) (fun e => by have := h.ub _ e; omega) (Nat.le_trans h.lz hz), h.d.grown hp.only (fun e => by injection e with e; subst e; exact h.d.ne_ hx (by decide) rfl), h.vb, h.ub, Nat.le_trans h.sz hp.only.size, h.lz⟩
theorem SN.nx (h : SN w wk lo g v u ys zs es z ca z0) {cs : List Value} {T : Tg} (hx : Bk wk gt 35 cs) (hz : z0 ≤ gt) (ht : ThK w wk cs T) : NX w wk lo g v u ys zs es gt cs T :=
  ⟨h.fh, hx, ht, fun e => by have := h.vb _ e; omega, fun e => by have := h.ub _ e; omega, Nat.le_trans h.lz hz⟩
theorem FH.sn (h : FH w wk lo g v u ys zs es) (hd : Bk wk z 70 ca) : SN w wk lo g v u ys zs es z ca wk.heap.size :=
  ⟨h, hd, own_lt h.fi.row, own_lt h.row, Nat.le_refl _, h.fi.lh⟩
theorem FH.zs_ (h : FH w wk lo g v u ys zs es) : ∃ A C, u = .slice A zs.length C ∧ Ths wk A zs.length zs := by
  obtain ⟨A, C, rfl⟩ := own_form h.row
  exact ⟨A, C, rfl, ⟨Sl.of_own h.row, fun y hy => (h.th y hy).thg h.fi.hb⟩⟩
end
theorem FindR_never {N : Nat} {tw : Nat → Nat → Int} {fi fj : Nat} {is : Bool} (h : FindR N tw fi fj is) (h0 : ∀ i j, tw i j ≠ 0) : is = false := by
  rcases h with ⟨e, a, b, c, d, f⟩ | ⟨e, a, b, c⟩
  · exact absurd c (h0 _ _)
  · exact e
theorem twI_none {hon : Int} {ds : List DeT} {ys : List (List Value × Tg)} {zs : List Tg} {es : List Ent} (h : (⟨ys.map (·.2), zs, es⟩ : HSt) = signH hon ds) (tb : List Int) (i j : Nat) : twI es tb (keyD hon) ys i j ≠ 0 := by
  rw [twI]
  split
  · rename_i x y hx hy
    have hi := (signH_len hon _ ds rfl).2.2.2
    rw [← h] at hi
    exact hi.none tb (List.mem_map.2 ⟨x, List.mem_of_getElem? hx, rfl⟩) (List.mem_map.2 ⟨y, List.mem_of_getElem? hy, rfl⟩)
  · decide
end Go.Proofs.Ythibihjblodfmaa
