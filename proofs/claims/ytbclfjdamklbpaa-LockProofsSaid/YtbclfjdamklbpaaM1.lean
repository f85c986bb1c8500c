/- Locks and their bytes: the plain law. -/
import Derived.Test.YtbclfjdamklbpaaLZ
import Derived.Test.YtbclfjdamklbpaaLW
namespace Go.Proofs.Ytbclfjdamklbpaa
set_option linter.unusedSimpArgs false
set_option linter.unusedVariables false
open Go.RowKit Go.Maps

theorem lnum_feed {n : Nat} {m : Int} (hn : (n : Int) ≤ m) (h64 : n < 18446744073709551616) (rest : List Int) : numR ⟨numB n ++ rest, 0⟩ m = (⟨rest, 0⟩, (n : Int)) := by
  unfold numR
  rw [if_pos rfl, look_num n h64 rest, if_pos rfl, if_pos hn, List.drop_left]
theorem lsome_feed {xs : List Int} {m : Int} (hn : (xs.length : Int) ≤ m) (h64 : xs.length < 18446744073709551616) (rest : List Int) : someR ⟨numB xs.length ++ (xs ++ rest), 0⟩ m = (⟨rest, 0⟩, xs) := by
  unfold someR
  rw [if_pos rfl, look_num xs.length h64 (xs ++ rest), if_pos rfl, if_pos hn]
  have h1 : (numB xs.length ++ (xs ++ rest)).length - (numB xs.length).length = xs.length + rest.length := by simp
  show (if (xs.length : Int) ≤ (((numB xs.length ++ (xs ++ rest)).length - (numB xs.length).length : Nat) : Int) then _ else _) = _
  rw [h1, if_pos (by omega)]
  show ((⟨((numB xs.length ++ (xs ++ rest)).drop (numB xs.length).length).drop xs.length, 0⟩ : Rd), ((numB xs.length ++ (xs ++ rest)).drop (numB xs.length).length).take xs.length) = _
  rw [List.drop_left, List.drop_left, List.take_left]
theorem lnum_eat {s : Rd} (hs : ByOk s.rest) {m : Int} (h : (numR s m).1.err = 0) : s.err = 0 ∧ s.rest = numB (numR s m).2.toNat ++ (numR s m).1.rest ∧ ByOk (numR s m).1.rest := by
  have he : s.err = 0 := by
    rcases Decidable.em (s.err = 0) with h0 | h0
    · exact h0
    · rw [num_bad h0] at h; exact absurd h h0
  by_cases hl : (lookB s.rest).2.2 = 0
  · by_cases hm : (lookB s.rest).1 ≤ m
    · rw [num_yes he hl hm]
      have hb := look_back s.rest (lookB s.rest).1 (lookB s.rest).2.1 hs (by rw [← hl])
      refine ⟨he, ?_, hs.drop _⟩
      show s.rest = numB (lookB s.rest).1.toNat ++ s.rest.drop (lookB s.rest).2.1
      rw [← hb.2.2.2.2, List.take_append_drop]
    · rw [num_range he hl (by omega)] at h; exact absurd h (by show ¬ (2 : Int) = 0; decide)
  · rw [num_look he hl] at h; exact absurd h hl
theorem lsome_eat {s : Rd} (hs : ByOk s.rest) {m : Int} (h : (someR s m).1.err = 0) : s.err = 0 ∧ s.rest = numB (someR s m).2.length ++ ((someR s m).2 ++ (someR s m).1.rest) ∧ ByOk (someR s m).1.rest ∧ ((someR s m).2.length : Int) ≤ m := by
  have he : s.err = 0 := by
    rcases Decidable.em (s.err = 0) with h0 | h0
    · exact h0
    · rw [some_bad h0] at h; exact absurd h h0
  by_cases hl : (lookB s.rest).2.2 = 0
  · by_cases hm : (lookB s.rest).1 ≤ m
    · by_cases hr : (lookB s.rest).1 ≤ ((s.rest.length - (lookB s.rest).2.1 : Nat) : Int)
      · rw [some_yes he hl hm hr]
        have hb := look_back s.rest (lookB s.rest).1 (lookB s.rest).2.1 hs (by rw [← hl])
        obtain ⟨h0, -, -, hle, ht⟩ := hb
        have hlen : ((s.rest.drop (lookB s.rest).2.1).take (lookB s.rest).1.toNat).length = (lookB s.rest).1.toNat := by rw [List.length_take, List.length_drop]; omega
        refine ⟨he, ?_, (hs.drop _).drop _, ?_⟩
        · show s.rest = numB ((s.rest.drop (lookB s.rest).2.1).take (lookB s.rest).1.toNat).length ++ ((s.rest.drop (lookB s.rest).2.1).take (lookB s.rest).1.toNat ++ (s.rest.drop (lookB s.rest).2.1).drop (lookB s.rest).1.toNat)
          rw [hlen, List.take_append_drop, ← ht, List.take_append_drop]
        · show (((s.rest.drop (lookB s.rest).2.1).take (lookB s.rest).1.toNat).length : Int) ≤ m
          rw [hlen]; omega
      · rw [some_short he hl hm (by omega)] at h; exact absurd h (by show ¬ (4 : Int) = 0; decide)
    · rw [some_range he hl (by omega)] at h; exact absurd h (by show ¬ (2 : Int) = 0; decide)
  · rw [some_look he hl] at h; exact absurd h hl
theorem lnum_byok {s : Rd} (hs : ByOk s.rest) (m : Int) : ByOk (numR s m).1.rest := by
  unfold numR
  split
  · split
    · split
      · exact hs.drop _
      · exact hs
    · exact hs
  · exact hs
theorem lsome_byok {s : Rd} (hs : ByOk s.rest) (m : Int) : ByOk (someR s m).1.rest := by
  unfold someR
  split
  · split
    · split
      · split
        · exact (hs.drop _).drop _
        · exact hs
      · exact hs
    · exact hs
  · exact hs

/-! ### both read the same -/
theorem srcNum_sync {s : Rd × Int} (h : s.2 = s.1.err) (m : Int) : srcNum s m = (((numR s.1 m).1, (numR s.1 m).1.err), (numR s.1 m).2) := by
  unfold srcNum
  split
  · rfl
  · rename_i he
    rw [num_bad (by rw [← h]; exact he), ← h]
theorem srcSome_sync {s : Rd × Int} (h : s.2 = s.1.err) (m : Int) : srcSome s m = (((someR s.1 m).1, (someR s.1 m).1.err), (someR s.1 m).2) := by
  unfold srcSome
  split
  · rfl
  · rename_i he
    rw [some_bad (by rw [← h]; exact he), ← h]
theorem srcDg_sync {s : Rd × Int} (h : s.2 = s.1.err) : (srcDg s).1 = ((docDg s.1).1.1, (docDg s.1).2) ∧ (srcDg s).2 = (docDg s.1).1.2 ∧ ((docDg s.1).2 = 0 → (docDg s.1).1.1.err = 0 ∧ s.1.err = 0) := by
  have h2 : (someR s.1 8).1.err = 0 → s.1.err = 0 := fun h0 => by
    rcases Decidable.em (s.1.err = 0) with h3 | h3
    · exact h3
    · rw [some_bad h3] at h0; exact h0
  unfold srcDg docDg
  rw [srcSome_sync h]
  by_cases he : (someR s.1 8).1.err = 0
  · by_cases h8 : (someR s.1 8).2.length = 8
    · simp only [he, h8, if_true]
      exact ⟨trivial, trivial, fun _ => ⟨trivial, h2 he⟩⟩
    · simp only [he, if_true, if_neg h8]
      exact ⟨trivial, trivial, fun h => absurd h (by decide)⟩
  · simp only [if_neg he]
    exact ⟨trivial, trivial, fun h => absurd h he⟩
theorem docDg_bad {s : Rd} (h : s.err ≠ 0) : (docDg s).2 = s.err := by
  unfold docDg
  rw [some_bad h, if_neg h]
theorem keys_sync {s : Rd × Int} (h : s.2 = s.1.err) : ∀ n, ((rkeysN s.1 n).2 = 0 → keysN s n = (((rkeysN s.1 n).1.1, (rkeysN s.1 n).1.1.err), (rkeysN s.1 n).1.2)) ∧ ((rkeysN s.1 n).2 ≠ 0 → (keysN s n).1.2 = (rkeysN s.1 n).2)
  | 0 => ⟨fun _ => by rw [keysN, rkeysN, ← h], fun h => absurd rfl h⟩
  | n + 1 => by
    obtain ⟨ih1, ih2⟩ := keys_sync h n
    by_cases h0 : (rkeysN s.1 n).2 = 0
    · have hk := ih1 h0
      obtain ⟨⟨⟨r, ks⟩, e⟩, hr⟩ : ∃ R, rkeysN s.1 n = R := ⟨_, rfl⟩
      rw [hr] at hk h0
      simp only at hk h0
      subst h0
      have hd := srcDg_sync (s := (r, r.err)) rfl
      rw [rkeysN, hr, keysN, hk]
      simp only [if_true]
      by_cases he : r.err = 0
      · rw [if_pos he]
        by_cases hx : (docDg r).2 = 0
        · rw [if_pos hx]
          refine ⟨fun _ => ?_, fun hh => absurd rfl hh⟩
          rw [hd.1, hd.2.1]
          simp only
          rw [hx, (hd.2.2 hx).1]
        · rw [if_neg hx]
          exact ⟨fun hh => absurd hh hx, fun _ => by rw [hd.1]⟩
      · rw [if_neg he]
        have hb := docDg_bad he
        have hx : (docDg r).2 ≠ 0 := by rw [hb]; exact he
        rw [if_neg hx]
        exact ⟨fun hh => absurd hh hx, fun _ => hb.symm⟩
    · have hk := ih2 h0
      rw [rkeysN, if_neg h0, keysN, if_neg (by rw [hk]; exact h0)]
      exact ⟨fun hh => absurd hh h0, fun _ => hk⟩
theorem srcNum_bad {s : Rd × Int} (h : s.2 ≠ 0) (m : Int) : srcNum s m = (s, 0) := if_neg h
theorem decT_bad {k : Int} {h : List Int} {ks : List (List Int)} {s : Rd × Int} (he : s.2 ≠ 0) : decT k h ks s = (lk0, s.2) := by
  unfold decT
  simp only [srcNum_bad he]
  rw [show srcEnd s = s.2 from if_neg he, decE, if_neg he]
theorem decT_sync (k : Int) (h : List Int) (ks : List (List Int)) (r : Rd) : decT k h ks (r, r.err) = decRT k h ks r := by
  unfold decT decRT
  rw [srcNum_sync (s := (r, r.err)) rfl]
  simp only
  rw [srcNum_sync (s := ((numR r 7).1, (numR r 7).1.err)) rfl]
  simp only
  rw [srcNum_sync (s := ((numR (numR r 7).1 1125899906842624).1, (numR (numR r 7).1 1125899906842624).1.err)) rfl]
  simp only
  congr 1
  unfold srcEnd endR
  split
  · rfl
  · rfl
theorem dec_same (bs : List Int) : decL bs = decR bs := by
  unfold decL decR
  rw [srcNum_sync (s := (⟨bs, 0⟩, 0)) rfl]
  simp only
  obtain ⟨⟨r1, v1⟩, h1⟩ : ∃ R, numR ⟨bs, 0⟩ 1 = R := ⟨_, rfl⟩
  rw [h1]
  simp only
  have hd := srcDg_sync (s := (r1, r1.err)) rfl
  rw [hd.1, hd.2.1]
  simp only at hd ⊢
  by_cases hx : (docDg r1).2 = 0
  · rw [if_pos hx, hx]
    have hs : ((docDg r1).1.1, (0 : Int)).2 = ((docDg r1).1.1, (0 : Int)).1.err := (hd.2.2 hx).1.symm
    unfold decK decRK
    rw [srcNum_sync hs]
    simp only
    obtain ⟨⟨r3, v3⟩, h3⟩ : ∃ R, numR (docDg r1).1.1 8 = R := ⟨_, rfl⟩
    rw [h3]
    simp only
    obtain ⟨k1, k2⟩ := keys_sync (s := (r3, r3.err)) rfl v3.toNat
    by_cases hk : (rkeysN r3 v3.toNat).2 = 0
    · rw [k1 hk, if_pos hk]
      exact decT_sync _ _ _ _
    · rw [if_neg hk]
      have := k2 hk
      simp only at this
      rw [decT_bad (by rw [this]; exact hk), this]
  · rw [if_neg hx]
    unfold decK
    rw [srcNum_bad hx]
    simp only [Int.toNat_zero, keysN]
    exact decT_bad (s := ((docDg r1).1.1, (docDg r1).2)) hx
/-! ### there and back -/
theorem rkeys_eat : ∀ (n : Nat) (s : Rd), ByOk s.rest → (rkeysN s n).2 = 0 → s.rest = ksB (rkeysN s n).1.2 ++ (rkeysN s n).1.1.rest ∧ (rkeysN s n).1.2.length = n ∧ ByOk (rkeysN s n).1.1.rest
  | 0, s, hs, _ => ⟨by simp [rkeysN, ksB], rfl, hs⟩
  | n + 1, s, hs, h => by
    have h0 : (rkeysN s n).2 = 0 := by
      rcases Decidable.em ((rkeysN s n).2 = 0) with h0 | h0
      · exact h0
      · rw [rkeysN, if_neg h0] at h; exact absurd h h0
    obtain ⟨i1, i2, i3⟩ := rkeys_eat n s hs h0
    obtain ⟨⟨⟨r, ks⟩, e⟩, hr⟩ : ∃ R, rkeysN s n = R := ⟨_, rfl⟩
    rw [hr] at h0 i1 i2 i3
    simp only at h0 i1 i2 i3
    subst h0
    rw [rkeysN, hr] at h ⊢
    simp only [if_true] at h ⊢
    by_cases hx : (docDg r).2 = 0
    · rw [if_pos hx]
      simp only
      unfold docDg at hx ⊢
      by_cases he : (someR r 8).1.err = 0
      · rw [if_pos he] at hx ⊢
        by_cases h8 : (someR r 8).2.length = 8
        · rw [if_pos h8]
          obtain ⟨_, e2, e3, _⟩ := lsome_eat i3 he
          refine ⟨?_, by simp [i2], e3⟩
          rw [i1, e2]
          simp [ksB, lstB, List.append_assoc]
        · rw [if_neg h8] at hx; exact absurd (show (3 : Int) = 0 from hx) (by decide)
      · rw [if_neg he] at hx; exact absurd hx he
    · rw [if_neg hx] at h; exact absurd h hx
theorem decE_zero {e : Int} {L : LkT} (h : (decE e L).2 = 0) : e = 0 ∧ checkL L.k L.s L.c L.u L.ks.length = 0 ∧ decE e L = (L, 0) := by
  unfold decE at h ⊢
  by_cases he : e = 0
  · rw [if_pos he] at h ⊢
    by_cases hc : checkL L.k L.s L.c L.u L.ks.length = 0
    · rw [if_pos hc]; exact ⟨he, hc, rfl⟩
    · rw [if_neg hc] at h; exact absurd h hc
  · rw [if_neg he] at h; exact absurd h he
theorem endR_zero {s : Rd} (h : endR s = 0) : s.err = 0 ∧ s.rest = [] := by
  unfold endR at h
  by_cases he : s.err = 0
  · rw [if_pos he] at h
    by_cases hr : s.rest = []
    · exact ⟨he, hr⟩
    · rw [if_neg hr] at h; cases h
  · rw [if_neg he] at h; exact absurd h he
theorem num_nz {s : Rd} {m : Int} (h : (numR s m).1.err ≠ 0) : (numR s m).2 = 0 := by
  by_cases he : s.err = 0
  · by_cases hl : (lookB s.rest).2.2 = 0
    · by_cases hm : (lookB s.rest).1 ≤ m
      · rw [num_yes he hl hm] at h; exact absurd rfl h
      · rw [num_range he hl (by omega)]
    · rw [num_look he hl]
  · rw [num_bad he]
theorem dec_back {bs : List Int} (ho : ByOk bs) (h : (decR bs).2 = 0) :
    lkB (decR bs).1.k.toNat (decR bs).1.h (decR bs).1.ks (decR bs).1.s.toNat (decR bs).1.c.toNat (decR bs).1.u.toNat = bs ∧ checkL (decR bs).1.k (decR bs).1.s (decR bs).1.c (decR bs).1.u (decR bs).1.ks.length = 0 := by
  unfold decR at h ⊢
  obtain ⟨⟨r1, v1⟩, h1⟩ : ∃ R, numR ⟨bs, 0⟩ 1 = R := ⟨_, rfl⟩
  have o1 : ByOk r1.rest := by have := lnum_byok (s := ⟨bs, 0⟩) ho 1; rw [h1] at this; exact this
  rw [h1] at h ⊢
  simp only at h ⊢
  by_cases hx : (docDg r1).2 = 0
  · rw [if_pos hx] at h ⊢
    unfold docDg at hx h ⊢
    by_cases he : (someR r1 8).1.err = 0
    · rw [if_pos he] at hx h ⊢
      by_cases h8 : (someR r1 8).2.length = 8
      · rw [if_pos h8] at h ⊢
        simp only at h ⊢
        obtain ⟨a1, a2, a3, _⟩ := lsome_eat o1 he
        obtain ⟨⟨r2, hd⟩, h2⟩ : ∃ R, someR r1 8 = R := ⟨_, rfl⟩
        rw [h2] at h h8 he a2 a3 ⊢
        simp only at h h8 he a2 a3 ⊢
        have b1 := lnum_eat (s := ⟨bs, 0⟩) (m := 1) ho (by rw [h1]; exact a1)
        rw [h1] at b1
        unfold decRK at h ⊢
        obtain ⟨⟨r3, v3⟩, h3⟩ : ∃ R, numR r2 8 = R := ⟨_, rfl⟩
        have o3 : ByOk r3.rest := by have := lnum_byok (s := r2) a3 8; rw [h3] at this; exact this
        have rg3 := lnum_rng (s := r2) a3 (most := 8) (by decide)
        rw [h3] at h rg3 ⊢
        simp only at h rg3 ⊢
        by_cases hk : (rkeysN r3 v3.toNat).2 = 0
        · rw [if_pos hk] at h ⊢
          obtain ⟨k1, k2, k3⟩ := rkeys_eat v3.toNat r3 o3 hk
          obtain ⟨⟨⟨r4, ks⟩, e4⟩, h4⟩ : ∃ R, rkeysN r3 v3.toNat = R := ⟨_, rfl⟩
          rw [h4] at h k1 k2 k3 hk ⊢
          simp only at h k1 k2 k3 hk ⊢
          unfold decRT at h ⊢
          obtain ⟨⟨r5, v5⟩, h5⟩ : ∃ R, numR r4 7 = R := ⟨_, rfl⟩
          have o5 : ByOk r5.rest := by have := lnum_byok (s := r4) k3 7; rw [h5] at this; exact this
          rw [h5] at h ⊢
          simp only at h ⊢
          obtain ⟨⟨r6, v6⟩, h6⟩ : ∃ R, numR r5 1125899906842624 = R := ⟨_, rfl⟩
          have o6 : ByOk r6.rest := by have := lnum_byok (s := r5) o5 1125899906842624; rw [h6] at this; exact this
          rw [h6] at h ⊢
          simp only at h ⊢
          obtain ⟨⟨r7, v7⟩, h7⟩ : ∃ R, numR r6 1099511627776 = R := ⟨_, rfl⟩
          rw [h7] at h ⊢
          simp only at h ⊢
          obtain ⟨z1, z2, z3⟩ := decE_zero h
          obtain ⟨y1, y2⟩ := endR_zero z1
          rw [z3]
          have c7 := lnum_eat (s := r6) (m := 1099511627776) o6 (by rw [h7]; exact y1)
          have c6 := lnum_eat (s := r5) (m := 1125899906842624) o5 (by rw [h6]; exact c7.1)
          have c5 := lnum_eat (s := r4) (m := 7) k3 (by rw [h5]; exact c6.1)
          have e3 : r3.err = 0 := by
            rcases Decidable.em (r3.err = 0) with h0 | h0
            · exact h0
            · exfalso
              have hz : v3 = 0 := by have := num_nz (s := r2) (m := 8) (by rw [h3]; exact h0); rw [h3] at this; exact this
              have h10 : rkeysN r3 v3.toNat = ((r3, []), 0) := by rw [hz]; rfl
              rw [h4] at h10
              injection h10 with e1 e2
              injection e1 with e1 e3
              rw [← e1] at h0
              exact h0 c5.1
          have c3 := lnum_eat (s := r2) (m := 8) a3 (by rw [h3]; exact e3)
          rw [h5] at c5; rw [h6] at c6; rw [h7] at c7; rw [h3] at c3
          simp only at b1 c3 c5 c6 c7 ⊢
          refine ⟨?_, z2⟩
          rw [b1.2.1, a2, c3.2.1, k1, c5.2.1, c6.2.1, c7.2.1, y2, lkB, lkHd, k2, h8]
          simp [nsB, lstB, h8, List.append_assoc]
        · rw [if_neg hk] at h; exact absurd h hk
      · rw [if_neg h8] at hx; exact absurd (show (3 : Int) = 0 from hx) (by decide)
    · rw [if_neg he] at hx; exact absurd hx he
  · rw [if_neg hx] at h; exact absurd h hx
theorem rkeys_feed (t : List Int) : ∀ (n : Nat) (ks : List (List Int)), DsOk ks → n ≤ ks.length → rkeysN ⟨ksB ks ++ t, 0⟩ n = ((⟨ksB (ks.drop n) ++ t, 0⟩, ks.take n), 0)
  | 0, ks, _, _ => by simp [rkeysN]
  | n + 1, ks, hk, hn => by
    have ih := rkeys_feed t n ks hk (by omega)
    have hlt : n < ks.length := by omega
    obtain ⟨x, hx⟩ : ∃ x, ks[n]? = some x := ⟨ks[n], List.getElem?_eq_getElem hlt⟩
    have hxo : DgOk x := hk x (List.mem_of_getElem? hx)
    have hdr : ks.drop n = x :: ks.drop (n + 1) := by
      rw [List.drop_eq_getElem_cons hlt]
      have : ks[n] = x := by rw [List.getElem?_eq_getElem hlt] at hx; exact Option.some.inj hx
      rw [this]
    rw [rkeysN, ih]
    simp only [if_true]
    have hs : someR ⟨ksB (ks.drop n) ++ t, 0⟩ 8 = (⟨ksB (ks.drop (n + 1)) ++ t, 0⟩, x) := by
      rw [hdr]
      have := lsome_feed (xs := x) (m := 8) (by rw [hxo.len]; decide) (by rw [hxo.len]; decide) (ksB (ks.drop (n + 1)) ++ t)
      rw [← this]
      simp [ksB, lstB, List.append_assoc]
    have hd : docDg ⟨ksB (ks.drop n) ++ t, 0⟩ = ((⟨ksB (ks.drop (n + 1)) ++ t, 0⟩, x), 0) := by
      unfold docDg
      rw [hs]
      simp only [if_true]
      rw [if_pos hxo.len]
    rw [hd]
    simp only [if_true]
    rw [take_snoc hx]
theorem dec_enc {k s c u : Nat} {h : List Int} {ks : List (List Int)} (hh : DgOk h) (hk : DsOk ks) (hc : checkL k s c u ks.length = 0) : decR (lkB k h ks s c u) = (⟨k, h, ks, s, c, u⟩, 0) := by
  obtain ⟨e1, e2, e3, e4, e5⟩ := checkL_zero hc
  have hb : k ≤ 1 ∧ ks.length ≤ 8 ∧ s ≤ 7 := by rcases e5 with e | e <;> omega
  have hw : lkB k h ks s c u = numB k ++ (numB 8 ++ (h ++ (numB ks.length ++ (ksB ks ++ (numB s ++ (numB c ++ (numB u ++ []))))))) := by
    rw [lkB, lkHd]
    simp [nsB, lstB, hh.len, List.append_assoc]
  rw [hw]
  unfold decR
  rw [lnum_feed (n := k) (m := 1) (by omega) (by omega)]
  simp only
  have hs : someR ⟨numB 8 ++ (h ++ (numB ks.length ++ (ksB ks ++ (numB s ++ (numB c ++ (numB u ++ [])))))), 0⟩ 8 = (⟨numB ks.length ++ (ksB ks ++ (numB s ++ (numB c ++ (numB u ++ [])))), 0⟩, h) := by
    have := lsome_feed (xs := h) (m := 8) (by rw [hh.len]; decide) (by rw [hh.len]; decide) (numB ks.length ++ (ksB ks ++ (numB s ++ (numB c ++ (numB u ++ [])))))
    rw [hh.len] at this
    exact this
  have hd : docDg ⟨numB 8 ++ (h ++ (numB ks.length ++ (ksB ks ++ (numB s ++ (numB c ++ (numB u ++ [])))))), 0⟩ = ((⟨numB ks.length ++ (ksB ks ++ (numB s ++ (numB c ++ (numB u ++ [])))), 0⟩, h), 0) := by
    unfold docDg
    rw [hs]
    simp only [if_true]
    rw [if_pos hh.len]
  rw [hd]
  simp only [if_true]
  unfold decRK
  rw [lnum_feed (n := ks.length) (m := 8) (by omega) (by omega)]
  simp only [Int.toNat_natCast]
  rw [rkeys_feed _ ks.length ks hk (Nat.le_refl _)]
  simp only [if_true, List.drop_length, List.take_length]
  rw [show ksB [] ++ (numB s ++ (numB c ++ (numB u ++ []))) = numB s ++ (numB c ++ (numB u ++ [])) from rfl]
  unfold decRT
  rw [lnum_feed (n := s) (m := 7) (by omega) (by omega)]
  simp only
  rw [lnum_feed (n := c) (m := 1125899906842624) (by omega) (by omega)]
  simp only
  rw [lnum_feed (n := u) (m := 1099511627776) (by omega) (by omega)]
  simp only
  rw [show endR (⟨[], 0⟩ : Rd) = 0 from rfl, decE, if_pos rfl, if_pos hc]
end Go.Proofs.Ytbclfjdamklbpaa
