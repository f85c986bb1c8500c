/- Real signatures, and those of the ideal book: what stands. -/
import Derived.Test.YtakfdlokgddaoaaDoorWT
namespace Go.Proofs.YtakfdlokgddaoaaDoor
set_option linter.unusedSimpArgs false
set_option linter.unusedVariables false
open Go.RowKit Go.Maps

def secA (i : Nat) : List Int := fromG ((100 + i : Nat) : Int)
theorem secA_ok (i : Nat) : DgOk (secA i) := fromG_ok _
def keyA (i : Nat) : List Int := rootI (leavesI (secA i) 1)
theorem keyA_ok (i : Nat) : DgOk (keyA i) := rootI_ok _
def keysA (k : Nat) : List (List Int) := (List.range k).map keyA
theorem keysA_len (k : Nat) : (keysA k).length = k := by simp [keysA]
theorem keysA_ok (k : Nat) : DsOk (keysA k) := fun d hd => by obtain ⟨i, _, rfl⟩ := List.mem_map.1 hd; exact keyA_ok i
theorem keysA_succ (k : Nat) : keysA (k + 1) = keysA k ++ [keyA k] := by rw [keysA, List.range_succ, List.map_append]; rfl
theorem keysA_at {k j : Nat} (h : j < k) : (keysA k)[j]? = some (keyA j) := by simp [keysA, h]
def sgA (S : List Bool) (m : List Int) (i : Nat) : List Int := if S.getD i false = true then sgI (secA i) 1 [m] m else []
def idA (es : List Ent) (S : List Bool) (m : List Int) (i : Nat) : List Int := if S.getD i false = true then sigB (es.idxOf (keyA i, m)) else []
theorem ver_one {m : List Int} (hm : DgOk m) (i : Nat) : verI (keyA i) m (sgI (secA i) 1 [m] m) = true := ver_sg (led_one hm 1) (by omega) (by simp) hm
/-- Who signed, by both. -/
structure AlP (m : List Int) (es : List Ent) (S : List Bool) (i : Nat) (ps qs : List Pc) : Prop where
  pl : ps.length = i
  ql : qs.length = i
  pb : ∀ (j : Nat) (p : Pc), ps[j]? = some p → p.bs = sgA S m j
  qb : ∀ (j : Nat) (p : Pc), qs[j]? = some p → p.bs = idA es S m j
  me : ∀ j, j < i → S.getD j false = true → (keyA j, m) ∈ es
  el : es.length ≤ i
theorem AlP.nil (m : List Int) (S : List Bool) : AlP m [] S 0 [] [] := ⟨rfl, rfl, (fun j p h => by simp at h), (fun j p h => by simp at h), (fun j h => by omega), Nat.le_refl _⟩
theorem snoc_at {ps : List Pc} {p x : Pc} {j i : Nat} (hl : ps.length = i) (h : (ps ++ [p])[j]? = some x) : (j < i ∧ ps[j]? = some x) ∨ (j = i ∧ x = p) := by
  rcases Nat.lt_or_ge j ps.length with hj | hj
  · rw [List.getElem?_append_left hj] at h; exact .inl ⟨by omega, h⟩
  · rw [List.getElem?_append_right hj] at h
    have h0 : j - ps.length = 0 := by have := (List.getElem?_eq_some_iff.1 h).1; simp at this; omega
    rw [h0] at h; simp at h
    exact .inr ⟨by omega, h.symm⟩
theorem AlP.no {m : List Int} {es : List Ent} {S : List Bool} {i : Nat} {ps qs : List Pc} (k : AlP m es S i ps qs) (hs : S.getD i false = false) {p q : Pc} (hp : p.bs = []) (hq : q.bs = []) : AlP m es S (i + 1) (ps ++ [p]) (qs ++ [q]) := by
  refine ⟨by simp [k.pl], by simp [k.ql], fun j x h => ?_, fun j x h => ?_, fun j hj h => ?_, Nat.le_succ_of_le k.el⟩
  · rcases snoc_at k.pl h with ⟨_, h⟩ | ⟨rfl, rfl⟩
    · exact k.pb j x h
    · rw [hp, sgA, hs]; rfl
  · rcases snoc_at k.ql h with ⟨_, h⟩ | ⟨rfl, rfl⟩
    · exact k.qb j x h
    · rw [hq, idA, hs]; rfl
  · rcases Nat.lt_or_ge j i with h1 | h1
    · exact k.me j h1 h
    · obtain rfl : j = i := by omega
      rw [hs] at h; cases h
theorem bookS_mem (es : List Ent) (e : Ent) : e ∈ bookS es e := by unfold bookS; split <;> simp_all
theorem bookS_old {es : List Ent} {e f : Ent} (h : f ∈ es) : f ∈ bookS es e ∧ (bookS es e).idxOf f = es.idxOf f := by
  unfold bookS
  split
  · exact ⟨h, rfl⟩
  · exact ⟨by simp [h], idx_app_old h _⟩
theorem bookS_idx (es : List Ent) (e : Ent) : (bookS es e).idxOf e = es.idxOf e := by
  unfold bookS
  split
  · rfl
  · rename_i h; rw [idx_app_new h, List.idxOf_eq_length h]
theorem AlP.yes {m : List Int} {es : List Ent} {S : List Bool} {i : Nat} {ps qs : List Pc} (k : AlP m es S i ps qs) (hs : S.getD i false = true) {p q : Pc} (hp : p.bs = sgI (secA i) 1 [m] m) (hq : q.bs = sigB (es.idxOf (keyA i, m))) : AlP m (bookS es (keyA i, m)) S (i + 1) (ps ++ [p]) (qs ++ [q]) := by
  refine ⟨by simp [k.pl], by simp [k.ql], fun j x h => ?_, fun j x h => ?_, fun j hj h => ?_, Nat.le_trans (bookS_len _ _) (Nat.succ_le_succ k.el)⟩
  · rcases snoc_at k.pl h with ⟨_, h⟩ | ⟨rfl, rfl⟩
    · exact k.pb j x h
    · rw [hp, sgA, if_pos hs]
  · rcases snoc_at k.ql h with ⟨hj, h⟩ | ⟨rfl, rfl⟩
    · rw [k.qb j x h, idA, idA]
      by_cases hj2 : S.getD j false = true
      · rw [if_pos hj2, if_pos hj2, (bookS_old (k.me j hj hj2)).2]
      · rw [if_neg hj2, if_neg hj2]
    · rw [hq, idA, if_pos hs, bookS_idx]
  · rcases Nat.lt_or_ge j i with h1 | h1
    · exact (bookS_old (k.me j h1 h)).1
    · obtain rfl : j = i := by omega
      exact bookS_mem _ _
/-- In memory: the book, the message, names, what was signed by both. -/
structure Al (w : World) (lo : Nat) (m : List Int) (z gb : Nat) (es : List Ent) (kn : Nat) (nv rv iv : Value) (ps qs : List Pc) : Prop where
  book : BookAt w lo gb es
  msg : Bk w z 23 (dl m)
  rn : w.ownsRow lo 23 8 nv kn (cellsD (keysA kn))
  rr : w.ownsRow lo 29 1 rv ps.length (ps.map Pc.v)
  ri : w.ownsRow lo 29 1 iv qs.length (qs.map Pc.v)
  bp : ∀ p ∈ ps, w.ownsRow lo 5 1 p.v p.n (p.bs.map (.int .u8)) ∧ p.n ≤ p.c
  bq : ∀ p ∈ qs, w.ownsRow lo 5 1 p.v p.n (p.bs.map (.int .u8)) ∧ p.n ≤ p.c
  ne : ∀ q, rv.ownBlock = some q → iv.ownBlock ≠ some q
  nz : nv.ownBlock ≠ some z
  lw : lo ≤ w.heap.size
section
variable {w w' : World} {lo z gb kn : Nat} {m : List Int} {es : List Ent} {nv rv iv : Value} {ps qs : List Pc}
theorem Al.later (k : Al w lo m z gb es kn nv rv iv ps qs) (hb : Below w.heap.size w w') : Al w' lo m z gb es kn nv rv iv ps qs :=
  ⟨k.book.later hb, k.msg.later hb, own_keep k.rn hb, own_keep k.rr hb, own_keep k.ri hb, fun p hp => ⟨own_keep (k.bp p hp).1 hb, (k.bp p hp).2⟩, fun p hp => ⟨own_keep (k.bq p hp).1 hb, (k.bq p hp).2⟩, k.ne, k.nz, Nat.le_trans k.lw hb.size⟩
theorem Al.sign (k : Al w lo m z gb es kn nv rv iv ps qs) {es' : List Ent} (hbk : BookAt w' lo gb es') (hk : Keeps w w') : Al w' lo m z gb es' kn nv rv iv ps qs :=
  ⟨hbk, k.msg.keeps hk (by decide) (by decide), own_keeps k.rn hk (by decide) (by decide), own_keeps k.rr hk (by decide) (by decide), own_keeps k.ri hk (by decide) (by decide), fun p hp => ⟨own_keeps (k.bp p hp).1 hk (by decide) (by decide), (k.bp p hp).2⟩, fun p hp => ⟨own_keeps (k.bq p hp).1 hk (by decide) (by decide), (k.bq p hp).2⟩, k.ne, k.nz, Nat.le_trans k.lw hk.size⟩
theorem own_grown {base size n base' size' n' : Nat} {e e' : TypeId} {v v' : Value} {xs xs' : List Value} (h : w.ownsRow base e size v n xs) (h' : w.ownsRow base' e' size' v' n' xs') (hg : w.grownBy w' v'.ownBlock) (he : e' ≠ e) : w'.ownsRow base e size v n xs :=
  own_eq h fun q hq => hg.block q (own_lt h hq).2 fun e2 => own_two h h' he hq e2.symm
theorem Al.addN (k : Al w lo m z gb es kn nv rv iv ps qs) {nv' : Value} (ho : w'.ownsRow lo 23 8 nv' (kn + 1) (cellsD (keysA kn) ++ dl (keyA kn))) (hg : w.grownBy w' nv.ownBlock) (ha : nv'.ownBlock = nv.ownBlock ∨ nv'.ownBlock = some w.heap.size) : Al w' lo m z gb es (kn + 1) nv' rv iv ps qs := by
  refine ⟨k.book.own k.rn hg (by decide) (by decide), k.msg.grown hg (fun e => k.nz e.symm), ?_, own_grown k.rr k.rn hg (by decide), own_grown k.ri k.rn hg (by decide), fun p hp => ⟨own_grown (k.bp p hp).1 k.rn hg (by decide), (k.bp p hp).2⟩, fun p hp => ⟨own_grown (k.bq p hp).1 k.rn hg (by decide), (k.bq p hp).2⟩, k.ne, ?_, Nat.le_trans k.lw hg.size⟩
  · rw [keysA_succ, cellsD_app, cellsD_one]; simpa [cellsD] using ho
  · intro e
    rcases ha with ha | ha
    · exact k.nz (ha ▸ e)
    · rw [ha] at e; injection e with e; have := k.msg.lt; omega
theorem Al.addR (k : Al w lo m z gb es kn nv rv iv ps qs) {rv' : Value} {p : Pc} (hpo : w.ownsRow lo 5 1 p.v p.n (p.bs.map (.int .u8)) ∧ p.n ≤ p.c) (ho : w'.ownsRow lo 29 1 rv' (ps.length + 1) (ps.map Pc.v ++ [p.v])) (hg : w.grownBy w' rv.ownBlock) (ha : rv'.ownBlock = rv.ownBlock ∨ rv'.ownBlock = some w.heap.size) : Al w' lo m z gb es kn nv rv' iv (ps ++ [p]) qs := by
  refine ⟨k.book.own k.rr hg (by decide) (by decide), k.msg.grown hg (fun e => own_bk_ne k.rr k.msg (by decide) e.symm), own_grown k.rn k.rr hg (by decide), ?_, ?_, ?_, fun p hp => ⟨own_grown (k.bq p hp).1 k.rr hg (by decide), (k.bq p hp).2⟩, ?_, k.nz, Nat.le_trans k.lw hg.size⟩
  · rw [List.length_append, List.map_append]; simpa using ho
  · exact own_eq k.ri fun q hq => hg.block q (own_lt k.ri hq).2 fun e => k.ne q e.symm hq
  · intro x hx
    rcases List.mem_append.1 hx with hx | hx
    · exact ⟨own_grown (k.bp x hx).1 k.rr hg (by decide), (k.bp x hx).2⟩
    · rw [List.mem_singleton] at hx; subst hx
      exact ⟨own_grown hpo.1 k.rr hg (by decide), hpo.2⟩
  · intro q hq
    rcases ha with ha | ha
    · exact k.ne q (ha ▸ hq)
    · rw [ha] at hq; injection hq with hq; subst hq
      intro e; have := (own_lt k.ri e).2; omega
theorem Al.addI (k : Al w lo m z gb es kn nv rv iv ps qs) {iv' : Value} {p : Pc} (hpo : w.ownsRow lo 5 1 p.v p.n (p.bs.map (.int .u8)) ∧ p.n ≤ p.c) (ho : w'.ownsRow lo 29 1 iv' (qs.length + 1) (qs.map Pc.v ++ [p.v])) (hg : w.grownBy w' iv.ownBlock) (ha : iv'.ownBlock = iv.ownBlock ∨ iv'.ownBlock = some w.heap.size) : Al w' lo m z gb es kn nv rv iv' ps (qs ++ [p]) := by
  refine ⟨k.book.own k.ri hg (by decide) (by decide), k.msg.grown hg (fun e => own_bk_ne k.ri k.msg (by decide) e.symm), own_grown k.rn k.ri hg (by decide), ?_, ?_, fun p hp => ⟨own_grown (k.bp p hp).1 k.ri hg (by decide), (k.bp p hp).2⟩, ?_, ?_, k.nz, Nat.le_trans k.lw hg.size⟩
  · exact own_eq k.rr fun q hq => hg.block q (own_lt k.rr hq).2 fun e => k.ne q hq e.symm
  · rw [List.length_append, List.map_append]; simpa using ho
  · intro x hx
    rcases List.mem_append.1 hx with hx | hx
    · exact ⟨own_grown (k.bq x hx).1 k.ri hg (by decide), (k.bq x hx).2⟩
    · rw [List.mem_singleton] at hx; subst hx
      exact ⟨own_grown hpo.1 k.ri hg (by decide), hpo.2⟩
  · intro q hq e
    rcases ha with ha | ha
    · exact k.ne q hq (ha ▸ e)
    · rw [ha] at e; injection e with e; have := (own_lt k.rr hq).2; omega
end
/-- A book whose blocks lie below B. -/
def BookLow (w : World) (lo g : Nat) (es : List Ent) (B : Nat) : Prop :=
  ∃ (V : Value) (b : Nat), Bk w g 95 [V, .map (some b)] ∧ w.ownsRow lo 101 16 V es.length (es.flatMap entC) ∧ w.ownsMap (H := Unit) Tryd.prog 101 (plainElem Tryd.prog 3) b es.length (bookD es) ∧ lo ≤ g ∧ lo ≤ b ∧ BookOk es ∧ g < B ∧ b < B ∧ ∀ q, V.ownBlock = some q → q < B
section
variable {w w' : World} {lo g b : Nat} {es : List Ent} {B : Nat}
theorem emap_eq {n : Nat} (k : w.ownsMap (H := Unit) Tryd.prog 101 (plainElem Tryd.prog 3) b n (bookD es)) (he : w'.heap[b]? = w.heap[b]?) : w'.ownsMap (H := Unit) Tryd.prog 101 (plainElem Tryd.prog 3) b n (bookD es) := by
  obtain ⟨es, clock, hb, F, hs, hD⟩ := k
  exact ⟨es, clock, he.trans hb, F, hs, hD⟩
theorem BookLow.of (h : BookAt w lo g es) : BookLow w lo g es w.heap.size := by
  obtain ⟨V, b, h1, h2, h3, h4, h5, h6⟩ := h
  exact ⟨V, b, h1, h2, h3, h4, h5, h6, h1.lt, World.ownsMap.lt h3, fun q hq => (own_lt h2 hq).2⟩
theorem BookLow.book (h : BookLow w lo g es B) : BookAt w lo g es := by
  obtain ⟨V, b, h1, h2, h3, h4, h5, h6, _⟩ := h
  exact ⟨V, b, h1, h2, h3, h4, h5, h6⟩
theorem BookLow.later (h : BookLow w lo g es B) (hb : Below w.heap.size w w') : BookLow w' lo g es B := by
  obtain ⟨V, b, h1, h2, h3, h4, h5, h6, h7⟩ := h
  exact ⟨V, b, h1.later hb, own_keep h2 hb, emap_eq h3 (hb.block b (World.ownsMap.lt h3)), h4, h5, h6, h7⟩
theorem BookLow.own {base size n : Nat} {e : TypeId} {v : Value} {xs : List Value} (h : BookLow w lo g es B) (ho : w.ownsRow base e size v n xs) (hg : w.grownBy w' v.ownBlock) (he1 : e ≠ 95) (he2 : e ≠ 101) : BookLow w' lo g es B := by
  obtain ⟨V, b, h1, h2, h3, h4, h5, h6, h7⟩ := h
  exact ⟨V, b, h1.grown hg (fun e2 => own_bk_ne ho h1 he1 e2.symm), own_grown h2 ho hg he2, emap_eq h3 (hg.block b (World.ownsMap.lt h3) (fun e2 => map_apart h3 ho e2)), h4, h5, h6, h7⟩
theorem BookLow.chg {p q : Nat} (h : BookLow w lo g es B) (hc : Chg w w' p q (.slice none 0 0)) (hp : B ≤ p) (hq : B ≤ q) : BookLow w' lo g es B := by
  obtain ⟨V, b, h1, h2, h3, h4, h5, h6, h7, h8, h9⟩ := h
  exact ⟨V, b, Bk.chg h1 hc (by omega) (by omega) (by simp [Value.ownBlock]), own_eq h2 fun r hr => hc.blk r (own_lt h2 hr).2 (by have := h9 r hr; omega) (by have := h9 r hr; omega) (by simp [Value.ownBlock]), emap_eq h3 (hc.blk b (World.ownsMap.lt h3) (by omega) (by omega) (by simp [Value.ownBlock])), h4, h5, h6, h7, h8, h9⟩
end
theorem Al.chg {w w' : World} {lo z gb kn : Nat} {m : List Int} {es : List Ent} {nv rv iv : Value} {ps qs : List Pc} (k : Al w lo m z gb es kn nv rv iv ps qs) {lo' g b : Nat} {T : Tr} {tlo thi : Nat} {sec : List Int} {h : Nat} {L : List (List Int)} (r : RingAt w lo' g b (.slice none 0 0) T tlo thi sec h L) (hc : Chg w w' g b (.slice none 0 0)) (hbk : BookAt w' lo gb es) : Al w' lo m z gb es kn nv rv iv ps qs :=
  have hn : ∀ q : Nat, (Value.slice none 0 0).ownBlock ≠ some q := fun q => by simp [Value.ownBlock]
  ⟨hbk, Bk.chg k.msg hc (fun e => (Bk.ne_ k.msg r.led.bk (by decide)) e) (fun e => map_ne r.led.map k.msg e.symm) (hn _), own_chg r k.rn hc (by decide) (fun q _ => hn q), own_chg r k.rr hc (by decide) (fun q _ => hn q), own_chg r k.ri hc (by decide) (fun q _ => hn q), fun p hp => ⟨own_chg r (k.bp p hp).1 hc (by decide) (fun q _ => hn q), (k.bp p hp).2⟩, fun p hp => ⟨own_chg r (k.bq p hp).1 hc (by decide) (fun q _ => hn q), (k.bq p hp).2⟩, k.ne, k.nz, Nat.le_trans k.lw hc.size⟩
theorem sigB_ok (i : Nat) (h : i < 65536) : ByOk (sigB i) := by intro b hb; simp [sigB] at hb; omega
/-- Who is missing. -/
def missA (S fs : List Bool) (n : Nat) : List Nat := (List.range n).filter fun i => !(fs.getD i false) && !(S.getD i false)
theorem bad_real {m : List Int} (hm : DgOk m) {es : List Ent} {S : List Bool} {ps qs : List Pc} {n : Nat} (k : AlP m es S n ps qs) (fs : List Bool) : missR m (keysA n) ps fs n = missA S fs n := by
  unfold missR missA
  refine List.filter_congr fun i hi => ?_
  have hin : i < n := by simpa using hi
  have hp : ps[i]? = some (ps[i]'(by rw [k.pl]; exact hin)) := List.getElem?_eq_getElem _
  have hb := k.pb i _ hp
  unfold badR
  rw [List.getD_eq_getElem?_getD (l := keysA n), keysA_at hin, List.getD_eq_getElem?_getD (l := ps.map Pc.bs), List.getElem?_map, hp]
  show (!(fs.getD i false) && !(verI (keyA i) m (ps[i]'(by rw [k.pl]; exact hin)).bs)) = _
  rw [hb, sgA]
  by_cases hs : S.getD i false = true
  · rw [if_pos hs, ver_one hm, hs]
  · rw [if_neg hs, ver_nil]
    have : S.getD i false = false := by simpa using hs
    rw [this]
theorem bad_ideal {m : List Int} {es : List Ent} {S : List Bool} {ps qs : List Pc} {n : Nat} (k : AlP m es S n ps qs) (fs : List Bool) : missB es m (keysA n) qs fs n = missA S fs n := by
  unfold missB missA
  refine List.filter_congr fun i hi => ?_
  have hin : i < n := by simpa using hi
  have hp : qs[i]? = some (qs[i]'(by rw [k.ql]; exact hin)) := List.getElem?_eq_getElem _
  have hb := k.qb i _ hp
  unfold badB
  rw [List.getD_eq_getElem?_getD (l := keysA n), keysA_at hin, List.getD_eq_getElem?_getD (l := qs.map Pc.bs), List.getElem?_map, hp]
  show (!(fs.getD i false) && !(verB es (keyA i, m) (qs[i]'(by rw [k.ql]; exact hin)).bs)) = _
  rw [hb, idA]
  by_cases hs : S.getD i false = true
  · rw [if_pos hs, hs, verB, decide_eq_true ⟨k.me i hin hs, rfl⟩]
  · rw [if_neg hs, verB, decide_eq_false (fun h => by simp [sigB] at h)]
    have : S.getD i false = false := by simpa using hs
    rw [this]
end Go.Proofs.YtakfdlokgddaoaaDoor
