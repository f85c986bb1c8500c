/- Blocks and their bytes: the plain law. -/
import Derived.Test.YtbpmomedhdmloaaDoorEP
import Derived.Test.YtbpmomedhdmloaaDoorE5
namespace Go.Proofs.YtbpmomedhdmloaaDoor
set_option linter.unusedSimpArgs false
set_option linter.unusedVariables false
open Go.RowKit Go.Maps

theorem encL_cons (t : TxT) (L : List TxT) : encL (t :: L) = lstB (txB t) ++ encL L := by simp [encL]
theorem lp_feed {p : List Int} {h : Int} {m : List Int} (rest : List Int) : ∀ (L L1 : List TxT), (∀ t ∈ L, txE t = 0 ∧ TxOk t) → lpR p h m L.length ⟨encL L ++ rest, 0⟩ L1 = bkFin (endR ⟨rest, 0⟩) ⟨p, h, m, L1 ++ L⟩
  | [], L1, _ => by simp [encL, lpR]
  | t :: L, L1, hl => by
    have ht := hl t (by simp)
    have hln := fit_len (txE_fit ht.1)
    have hb := txB_len t
    have hs := esome_feed (xs := txB t) (m := 40000) (by omega) (by omega) (encL L ++ rest)
    rw [encL_cons, List.append_assoc, List.length_cons, lpR_step (s := ⟨lstB (txB t) ++ (encL L ++ rest), 0⟩) hs rfl (tx_round ht.1 ht.2), lp_feed rest L (L1 ++ [t]) (fun u hu => hl u (by simp [hu])), List.append_assoc]
    rfl
theorem bk_feed {p : List Int} {h : Int} {m : List Int} {L : List TxT} (hp : DgOk p) (hm : DgOk m) (hE : blkE h L = 0) (hok : ∀ t ∈ L, TxOk t) (rest : List Int) : bkRd (encB p h m L ++ rest) = bkFin (endR ⟨rest, 0⟩) ⟨p, h, m, L⟩ := by
  have hz := blkE_zero hE
  have h0 : 0 ≤ h := by have := hz.1; omega
  have h1 : h ≤ 1099511627776 := by have := hz.1; omega
  have h64 := hz.2.1
  have e : encB p h m L ++ rest = numB (numN p) ++ (numB h.toNat ++ (numB (numN m) ++ (numB L.length ++ (encL L ++ rest)))) := by
    simp [encB, headB, List.append_assoc]
  have n1 := numN_lt hp; have n2 := numN_lt hm
  rw [e, bkRd, enum_feed (by omega) n1, bkR1]
  show bkR2 _ (numR ⟨numB h.toNat ++ _, 0⟩ _) = _
  rw [enum_feed (by omega) (by omega), bkR2]
  show bkR3 _ _ (numR ⟨numB (numN m) ++ _, 0⟩ _) = _
  rw [enum_feed (by omega) n2, bkR3]
  show bkR4 _ _ _ (numR ⟨numB L.length ++ _, 0⟩ _) = _
  rw [enum_feed (by omega) (by omega), bkR4]
  show lpR (fromG ((numN p : Nat) : Int)) ((h.toNat : Nat) : Int) (fromG ((numN m : Nat) : Int)) (((L.length : Nat) : Int).toNat) ⟨encL L ++ rest, 0⟩ [] = _
  rw [Int.toNat_natCast, from_numN hp, from_numN hm, Int.toNat_of_nonneg h0, lp_feed rest L [] (fun t ht => ⟨(blk_tx hE ht).1, hok t ht⟩), List.nil_append]
theorem bk_round {p : List Int} {h : Int} {m : List Int} {L : List TxT} (hp : DgOk p) (hm : DgOk m) (hE : blkE h L = 0) (hok : ∀ t ∈ L, TxOk t) : bkRd (encB p h m L) = (⟨p, h, m, L⟩, 0) := by
  have := bk_feed hp hm hE hok []
  rw [List.append_nil] at this
  rw [this, bkFin, if_neg (by simp [endR]), if_neg (by simp [hE])]
theorem bkFin_zero {e : Int} {b u : BkT} (h : bkFin e b = (u, 0)) : e = 0 ∧ u = b ∧ blkE b.h b.L = 0 := by
  unfold bkFin at h
  by_cases he : e = 0
  · rw [if_neg (by simp [he])] at h
    by_cases ht : blkE b.h b.L = 0
    · rw [if_neg (by simp [ht])] at h; injection h with h1 _; exact ⟨he, h1.symm, ht⟩
    · rw [if_pos ht] at h; injection h with _ h2; exact absurd h2 ht
  · rw [if_pos he] at h; injection h with _ h2; exact absurd h2 he
theorem lp_eat {p : List Int} {h : Int} {m : List Int} : ∀ (k : Nat) (s : Rd) (L1 : List TxT) (u : BkT), ByOk s.rest → lpR p h m k s L1 = (u, 0) →
    s.err = 0 ∧ ∃ L, u = ⟨p, h, m, L1 ++ L⟩ ∧ L.length = k ∧ s.rest = encL L ∧ blkE h (L1 ++ L) = 0 ∧ ∀ t ∈ L, TxOk t
  | 0, s, L1, u, hs, hr => by
    obtain ⟨h0, rfl, hE⟩ := bkFin_zero hr
    obtain ⟨e1, e2⟩ := endR_zero h0
    exact ⟨e1, [], by simp, rfl, by rw [e2]; rfl, by simpa using hE, fun t ht => by cases ht⟩
  | k + 1, s, L1, u, hs, hr => by
    obtain ⟨⟨s', x⟩, hR⟩ : ∃ R, someR s 40000 = R := ⟨_, rfl⟩
    obtain ⟨⟨t, y⟩, hT⟩ : ∃ R, txRd x = R := ⟨_, rfl⟩
    have ho := someR_okE (s := s) hs 40000
    rw [hR] at ho
    by_cases he : s'.err = 0
    · by_cases hy : y = 0
      · subst hy
        rw [lpR_step hR he hT] at hr
        obtain ⟨_, L, rfl, hl, hrest, hE, hok⟩ := lp_eat k s' (L1 ++ [t]) u ho.2 hr
        obtain ⟨e0, z0, _⟩ := esome_eat hs hR he
        obtain ⟨zt, ht, hto⟩ := tx_eat ho.1 hT
        refine ⟨e0, t :: L, by simp, by simp [hl], ?_, by simpa using hE, fun v hv => ?_⟩
        · rw [z0, encL_cons, hrest]
          have zt : x = txB t := zt
          rw [zt]
        · rcases List.mem_cons.1 hv with rfl | hv
          · exact hto
          · exact hok v hv
      · rw [lpR_bad hR he hT hy] at hr; injection hr with _ h2; exact absurd h2 hy
    · rw [lpR_err hR he] at hr; injection hr with _ h2; exact absurd h2 he
theorem bk_eat {bs : List Int} (hb : ByOk bs) {u : BkT} (hr : bkRd bs = (u, 0)) : bs = encB u.p u.h u.m u.L ∧ blkE u.h u.L = 0 ∧ DgOk u.p ∧ DgOk u.m ∧ ∀ t ∈ u.L, TxOk t := by
  obtain ⟨⟨s1, f⟩, r1⟩ : ∃ R, numR ⟨bs, 0⟩ 18446744073709551615 = R := ⟨_, rfl⟩
  obtain ⟨⟨s2, h⟩, r2⟩ : ∃ R, numR s1 1099511627776 = R := ⟨_, rfl⟩
  obtain ⟨⟨s3, g⟩, r3⟩ : ∃ R, numR s2 18446744073709551615 = R := ⟨_, rfl⟩
  obtain ⟨⟨s4, n⟩, r4⟩ : ∃ R, numR s3 64 = R := ⟨_, rfl⟩
  rw [bkRd, r1, bkR1] at hr
  change bkR2 f (numR s1 _) = _ at hr
  rw [r2, bkR2] at hr
  change bkR3 f h (numR s2 _) = _ at hr
  rw [r3, bkR3] at hr
  change bkR4 f h g (numR s3 _) = _ at hr
  rw [r4, bkR4] at hr
  change lpR (fromG f) h (fromG g) n.toNat s4 [] = _ at hr
  have o1 := numR_rngE (s := ⟨bs, 0⟩) (m := 18446744073709551615) hb (by decide)
  rw [r1] at o1
  have o2 := numR_rngE (s := s1) (m := 1099511627776) o1.2.2 (by decide)
  rw [r2] at o2
  have o3 := numR_rngE (s := s2) (m := 18446744073709551615) o2.2.2 (by decide)
  rw [r3] at o3
  have o4 := numR_rngE (s := s3) (m := 64) o3.2.2 (by decide)
  rw [r4] at o4
  obtain ⟨e4, L, rfl, hl, hrest, hE, hok⟩ := lp_eat _ s4 [] u o4.2.2 hr
  obtain ⟨e3, z3, _⟩ := enum_eat o3.2.2 r4 e4
  obtain ⟨e2, z2, _⟩ := enum_eat o2.2.2 r3 e3
  obtain ⟨e1, z1, _⟩ := enum_eat o1.2.2 r2 e2
  obtain ⟨_, z0, _⟩ := enum_eat (s := ⟨bs, 0⟩) hb r1 e1
  have v1 : 0 ≤ f ∧ f ≤ 18446744073709551615 := ⟨o1.1, o1.2.1⟩; have v3 : 0 ≤ g ∧ g ≤ 18446744073709551615 := ⟨o3.1, o3.2.1⟩
  refine ⟨?_, by simpa using hE, fromG_ok f, fromG_ok g, by simpa using hok⟩
  change bs = _ at z0
  rw [z0, z1, z2, z3, hrest]
  show _ = (((numB (numN (fromG f)) ++ numB h.toNat) ++ numB (numN (fromG g))) ++ numB ([] ++ L).length) ++ encL ([] ++ L)
  rw [List.nil_append, numN_from v1.1 v1.2, numN_from v3.1 v3.2, hl]
  simp [List.append_assoc]
theorem bk_ok (bs : List Int) (hb : ByOk bs) : (bkRd bs).2 ≠ 0 → (bkRd bs).1 = bk0 := by
  have hfin : ∀ (e : Int) (b : BkT), (bkFin e b).2 ≠ 0 → (bkFin e b).1 = bk0 := fun e b => by
    unfold bkFin
    split
    · exact fun _ => rfl
    · split
      · exact fun _ => rfl
      · exact fun h => absurd rfl h
  have hlp : ∀ (p : List Int) (h : Int) (m : List Int) (k : Nat) (s : Rd) (L : List TxT), (lpR p h m k s L).2 ≠ 0 → (lpR p h m k s L).1 = bk0 := fun p h m k => by
    induction k with
    | zero => exact fun s L => hfin _ _
    | succ k ih =>
      intro s L
      rw [lpR]
      split
      · exact fun _ => rfl
      · split
        · exact fun _ => rfl
        · exact ih _ _
  exact hlp _ _ _ _ _ _
/-- What is cut off is no block. -/
theorem bk_cut {p : List Int} {h : Int} {m : List Int} {L : List TxT} (hp : DgOk p) (hm : DgOk m) (hE : blkE h L = 0) (hok : ∀ t ∈ L, TxOk t) (hb : ByOk (encB p h m L)) {k : Nat} (hk : k < (encB p h m L).length) : (bkRd ((encB p h m L).take k)).2 ≠ 0 := by
  intro h0
  obtain ⟨⟨u, y⟩, hR⟩ : ∃ R, bkRd ((encB p h m L).take k) = R := ⟨_, rfl⟩
  rw [hR] at h0
  obtain rfl : y = 0 := h0
  obtain ⟨z, uE, up, um, uok⟩ := bk_eat (hb.take k) hR
  have h1 := bk_feed up um uE uok ((encB p h m L).drop k)
  rw [← z, List.take_append_drop, bk_round hp hm hE hok] at h1
  have hne : (encB p h m L).drop k ≠ [] := fun e => by
    have := congrArg List.length e
    rw [List.length_drop] at this
    simp at this
    omega
  rw [bkFin, show endR ⟨(encB p h m L).drop k, 0⟩ = 5 by unfold endR; rw [if_pos rfl, if_neg hne], if_pos (by decide)] at h1
  injection h1 with _ h2
  exact absurd h2 (by decide)
theorem encL_ok : ∀ (L : List TxT), (∀ t ∈ L, TxOk t ∧ t.b.length ≤ 32768 ∧ t.s.length ≤ 1024) → ByOk (encL L)
  | [], _ => fun x hx => by simp [encL] at hx
  | t :: L, hl => by
    have ht := hl t (by simp)
    rw [encL_cons]
    refine byOk_app (lstB_ok (txB_ok ht.1 (by omega) (by omega)) ?_) (encL_ok L fun u hu => hl u (by simp [hu]))
    have := txB_len t; omega
theorem encB_ok {p : List Int} {h : Int} {m : List Int} {L : List TxT} (hp : DgOk p) (hm : DgOk m) (hE : blkE h L = 0) (hok : ∀ t ∈ L, TxOk t) : ByOk (encB p h m L) := by
  have hz := blkE_zero hE
  exact byOk_app (headB_ok hp hm (by have := hz.1; omega) (by have := hz.2.1; omega)) (encL_ok L fun t ht => ⟨hok t ht, (blk_tx hE ht).2⟩)
theorem encB_pos (p : List Int) (h : Int) (m : List Int) (L : List TxT) : 0 < (encB p h m L).length := by
  have := (numF_len 9 (numN p)).1
  simp only [encB, headB, List.length_append, numB]; omega
theorem encB_len {p : List Int} {h : Int} {m : List Int} {L : List TxT} (hE : blkE h L = 0) : (encB p h m L).length ≤ 2600000 := by
  have h1 := headB_len p h m L.length
  have h2 := encL_len L (fun t ht => (blk_tx hE ht).2)
  have := (blkE_zero hE).2.1
  rw [encB, List.length_append]; omega
end Go.Proofs.YtbpmomedhdmloaaDoor
