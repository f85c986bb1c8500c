/- The plain law of bytes. -/
import Derived.Test.YthibihjblodfmaaQ13
import Derived.Test.YthibihjblodfmaaQ9
namespace Go.Proofs.Ythibihjblodfmaa
open Go.RowKit

theorem numR_bad {s : Rd} (h : s.err ≠ 0) (m : Int) : numR s m = (s, 0) := num_bad h m
theorem eightR_bad {s : Rd} (h : s.err ≠ 0) : eightR s = (s, zeroD) := by
  unfold eightR; rw [some_bad h, if_neg h]
theorem endR_bad {s : Rd} (h : s.err ≠ 0) : endR s = s.err := by unfold endR; rw [if_neg h]
theorem rEndD_bad {k n : Int} {t : List Int} {x : Rd × List Int} (h : x.1.err ≠ 0) : rEndD k n t x = (rg0, x.1.err) := by
  unfold rEndD
  rw [some_bad h, some_bad h]
  show (if endR x.1 = 0 then _ else (rg0, endR x.1)) = _
  rw [endR_bad h, if_neg h]
theorem dig_eight (s : Rd) : ((digD s).2.2 = 0 ∧ eightR s = ((digD s).1, (digD s).2.1) ∧ (digD s).1.err = 0) ∨ ((digD s).2.2 ≠ 0 ∧ (eightR s).1.err = (digD s).2.2) := by
  unfold digD eightR
  by_cases h : (someR s 8).1.err = 0
  · rw [if_pos h, if_pos h]
    by_cases h2 : (someR s 8).2.length = 8
    · rw [if_pos h2, if_pos h2]; exact .inl ⟨rfl, rfl, h⟩
    · rw [if_neg h2, if_neg h2]; exact .inr ⟨by show (3 : Int) ≠ 0; decide, rfl⟩
  · rw [if_neg h, if_neg h]; exact .inr ⟨h, rfl⟩
def toR (o : Tg) : Rg := if o.k = 1 then ⟨o.k, o.m, o.u, o.v, o.qs, o.ss⟩ else ⟨o.k, o.n, o.t, zeroD, o.ps, o.ss⟩
theorem toR0 : toR tg0 = rg0 := rfl
theorem dec_agree (bs : List Int) (ho : ByOk bs) : decR bs = (toR (decP bs).1, (decP bs).2) := by
  have hk := num_rng (s := ⟨bs, 0⟩) ho (most := 1) (by omega)
  unfold decR decP
  obtain ⟨a, ha⟩ : ∃ a, numR ⟨bs, 0⟩ 1 = a := ⟨_, rfl⟩
  rw [ha] at hk ⊢
  rcases dig_eight a.1 with ⟨h1, h2, h3⟩ | ⟨h1, h2⟩
  · rw [if_pos h1, h2]
    obtain ⟨b, hb⟩ : ∃ b, digD a.1 = b := ⟨_, rfl⟩
    rw [hb]
    show decR1 a.2 (numR b.1 1099511627776).1 b.2.1 (numR b.1 1099511627776).2 = _
    obtain ⟨d, hd⟩ : ∃ d, numR b.1 1099511627776 = d := ⟨_, rfl⟩
    rw [hd]
    unfold decR1 decP1
    by_cases hk0 : a.2 = 0
    · rw [if_pos hk0, if_neg (by omega)]
      unfold rEndD decEnd
      show (if endR (someR (someR d.1 4096).1 4096).1 = 0 then _ else _) = _
      by_cases he : endR (someR (someR d.1 4096).1 4096).1 = 0
      · rw [if_pos he, if_pos he]
        show _ = (toR ⟨a.2, _, _, _, _, _, _, _, _⟩, (0 : Int))
        rw [toR, if_neg (by show ¬ a.2 = 1; omega)]
      · rw [if_neg he, if_neg he]; rfl
    · rw [if_neg hk0, if_pos (by omega)]
      rcases dig_eight d.1 with ⟨g1, g2, g3⟩ | ⟨g1, g2⟩
      · rw [if_pos g1, g2]
        unfold rEndD decEnd
        show (if endR (someR (someR (digD d.1).1 4096).1 4096).1 = 0 then _ else _) = _
        by_cases he : endR (someR (someR (digD d.1).1 4096).1 4096).1 = 0
        · rw [if_pos he, if_pos he]
          show _ = (toR ⟨a.2, _, _, _, _, _, _, _, _⟩, (0 : Int))
          rw [toR, if_pos (by show a.2 = 1; omega)]
        · rw [if_neg he, if_neg he]; rfl
      · rw [if_neg g1, rEndD_bad (by rw [g2]; exact g1), g2]; rfl
  · rw [if_neg h1]
    have hx : (eightR a.1).1.err ≠ 0 := by rw [h2]; exact h1
    rw [numR_bad hx]
    unfold decR1
    have : (if a.2 = 1 then eightR (eightR a.1).1 else ((eightR a.1).1, zeroD)) = ((eightR a.1).1, zeroD) := by
      split
      · exact eightR_bad hx
      · rfl
    show rEndD _ _ _ (if a.2 = 1 then eightR (eightR a.1).1 else ((eightR a.1).1, zeroD)) = _
    rw [this, rEndD_bad (x := ((eightR a.1).1, zeroD)) hx]
    show (rg0, (eightR a.1).1.err) = _
    rw [h2]; rfl
theorem decEnd_zero {s : Rd} {T : List Int → Tg} (h : (decEnd s T).2 ≠ 0) : (decEnd s T).1 = tg0 := by
  unfold decEnd at h ⊢
  split
  · rename_i h1; rw [if_pos h1] at h; exact absurd rfl h
  · rfl
theorem decP_zero {bs : List Int} (h : (decP bs).2 ≠ 0) : (decP bs).1 = tg0 := by
  unfold decP at h ⊢
  split
  · rename_i h1
    rw [if_pos h1] at h
    unfold decP1 at h ⊢
    split
    · rename_i h2; rw [if_pos h2] at h; exact decEnd_zero h
    · rename_i h2
      rw [if_neg h2] at h
      split
      · rename_i h3; rw [if_pos h3] at h; exact decEnd_zero h
      · rfl
  · rfl

/-! ### there and back -/
theorem num_feed {n : Nat} {m : Int} (hn : (n : Int) ≤ m) (h64 : n < 18446744073709551616) (rest : List Int) : numR ⟨numB n ++ rest, 0⟩ m = (⟨rest, 0⟩, (n : Int)) := by
  unfold numR
  rw [if_pos rfl, look_num n h64 rest, if_pos rfl, if_pos hn, List.drop_left]
theorem some_feed {xs : List Int} {m : Int} (hn : (xs.length : Int) ≤ m) (h64 : xs.length < 18446744073709551616) (rest : List Int) : someR ⟨numB xs.length ++ (xs ++ rest), 0⟩ m = (⟨rest, 0⟩, xs) := by
  unfold someR
  rw [if_pos rfl, look_num xs.length h64 (xs ++ rest), if_pos rfl, if_pos hn]
  have h1 : (numB xs.length ++ (xs ++ rest)).length - (numB xs.length).length = xs.length + rest.length := by simp
  show (if (xs.length : Int) ≤ (((numB xs.length ++ (xs ++ rest)).length - (numB xs.length).length : Nat) : Int) then _ else _) = _
  rw [h1, if_pos (by omega)]
  show ((⟨((numB xs.length ++ (xs ++ rest)).drop (numB xs.length).length).drop xs.length, 0⟩ : Rd), ((numB xs.length ++ (xs ++ rest)).drop (numB xs.length).length).take xs.length) = _
  rw [List.drop_left, List.drop_left, List.take_left]
theorem dig_feed {xs : List Int} (hx : xs.length = 8) (rest : List Int) : digD ⟨numB 8 ++ (xs ++ rest), 0⟩ = (⟨rest, 0⟩, xs, 0) := by
  have h : someR ⟨numB 8 ++ (xs ++ rest), 0⟩ 8 = (⟨rest, 0⟩, xs) := by
    have := some_feed (xs := xs) (m := 8) (by omega) (by omega) rest
    rw [hx] at this; exact this
  unfold digD
  rw [h, if_pos rfl, if_pos hx]
theorem num_eat {s : Rd} (hs : ByOk s.rest) {m : Int} (h : (numR s m).1.err = 0) : s.err = 0 ∧ s.rest = numB (numR s m).2.toNat ++ (numR s m).1.rest ∧ ByOk (numR s m).1.rest := by
  have he : s.err = 0 := by
    rcases Decidable.em (s.err = 0) with h0 | h0
    · exact h0
    · rw [num_bad h0] at h; exact absurd h h0
  by_cases hl : (lookB s.rest).2.2 = 0
  · by_cases hm : (lookB s.rest).1 ≤ m
    · rw [num_yes he hl hm]
      have hb := look_back s.rest (lookB s.rest).1 (lookB s.rest).2.1 hs (by rw [← hl])
      refine ⟨he, ?_, hs.drop _⟩
      show s.rest = numB (lookB s.rest).1.toNat ++ s.rest.drop (lookB s.rest).2.1
      rw [← hb.2.2.2.2, List.take_append_drop]
    · rw [num_range he hl (by omega)] at h; exact absurd h (by show ¬ (2 : Int) = 0; decide)
  · rw [num_look he hl] at h; exact absurd h hl
theorem some_eat {s : Rd} (hs : ByOk s.rest) {m : Int} (h : (someR s m).1.err = 0) : s.err = 0 ∧ s.rest = numB (someR s m).2.length ++ ((someR s m).2 ++ (someR s m).1.rest) ∧ ByOk (someR s m).1.rest ∧ ((someR s m).2.length : Int) ≤ m := by
  have he : s.err = 0 := by
    rcases Decidable.em (s.err = 0) with h0 | h0
    · exact h0
    · rw [some_bad h0] at h; exact absurd h h0
  by_cases hl : (lookB s.rest).2.2 = 0
  · by_cases hm : (lookB s.rest).1 ≤ m
    · by_cases hr : (lookB s.rest).1 ≤ ((s.rest.length - (lookB s.rest).2.1 : Nat) : Int)
      · rw [some_yes he hl hm hr]
        have hb := look_back s.rest (lookB s.rest).1 (lookB s.rest).2.1 hs (by rw [← hl])
        obtain ⟨h0, -, -, hle, ht⟩ := hb
        have hlen : ((s.rest.drop (lookB s.rest).2.1).take (lookB s.rest).1.toNat).length = (lookB s.rest).1.toNat := by rw [List.length_take, List.length_drop]; omega
        refine ⟨he, ?_, (hs.drop _).drop _, ?_⟩
        · show s.rest = numB ((s.rest.drop (lookB s.rest).2.1).take (lookB s.rest).1.toNat).length ++ ((s.rest.drop (lookB s.rest).2.1).take (lookB s.rest).1.toNat ++ (s.rest.drop (lookB s.rest).2.1).drop (lookB s.rest).1.toNat)
          rw [hlen, List.take_append_drop, ← ht, List.take_append_drop]
        · show (((s.rest.drop (lookB s.rest).2.1).take (lookB s.rest).1.toNat).length : Int) ≤ m
          rw [hlen]; omega
      · rw [some_short he hl hm (by omega)] at h; exact absurd h (by show ¬ (4 : Int) = 0; decide)
    · rw [some_range he hl (by omega)] at h; exact absurd h (by show ¬ (2 : Int) = 0; decide)
  · rw [some_look he hl] at h; exact absurd h hl
theorem dig_eat {s : Rd} (hs : ByOk s.rest) (h : (digD s).2.2 = 0) : s.err = 0 ∧ s.rest = numB 8 ++ ((digD s).2.1 ++ (digD s).1.rest) ∧ ByOk (digD s).1.rest ∧ (digD s).1.err = 0 := by
  unfold digD at h ⊢
  by_cases h1 : (someR s 8).1.err = 0
  · rw [if_pos h1] at h ⊢
    by_cases h2 : (someR s 8).2.length = 8
    · rw [if_pos h2]
      obtain ⟨g1, g2, g3, -⟩ := some_eat hs h1
      rw [h2] at g2
      exact ⟨g1, g2, g3, h1⟩
    · rw [if_neg h2] at h; exact absurd h (by show ¬ (3 : Int) = 0; decide)
  · rw [if_neg h1] at h; exact absurd h h1
theorem end_eat {s : Rd} (h : endR s = 0) : s.err = 0 ∧ s.rest = [] := by
  unfold endR at h
  by_cases h1 : s.err = 0
  · rw [if_pos h1] at h
    by_cases h2 : s.rest = []
    · exact ⟨h1, h2⟩
    · rw [if_neg h2] at h; exact absurd h (by decide)
  · rw [if_neg h1] at h; exact absurd h h1
/-- The program's thing of the document's. -/
def ofT (k n : Int) (t v bs ss : List Int) : Tg := if k = 0 then ⟨k, n, 0, t, zeroD, zeroD, bs, [], ss⟩ else ⟨k, 0, n, zeroD, t, v, [], bs, ss⟩
theorem enc0 (n : Int) (t v bs ss : List Int) : encT 0 n t v bs ss = numB 0 ++ (numB 8 ++ (t ++ (numB n.toNat ++ (numB bs.length ++ (bs ++ (numB ss.length ++ ss)))))) := by
  unfold encT
  rw [if_neg (show ¬ (0 : Int) = 1 by decide)]
  simp only [List.append_assoc, Int.toNat_zero]
theorem enc1 (n : Int) (t v bs ss : List Int) : encT 1 n t v bs ss = numB 1 ++ (numB 8 ++ (t ++ (numB n.toNat ++ (numB 8 ++ (v ++ (numB bs.length ++ (bs ++ (numB ss.length ++ ss)))))))) := by
  unfold encT
  rw [if_pos rfl]
  simp only [List.append_assoc, Int.toNat_one]
theorem dec_enc {k n : Int} {t v bs ss : List Int} (hk : k = 0 ∨ k = 1) (hn0 : 0 ≤ n) (hn1 : n ≤ 1099511627776) (ht : t.length = 8) (hv : v.length = 8) (hb : bs.length ≤ 4096) (hs : ss.length ≤ 4096) :
    decP (encT k n t v bs ss) = (ofT k n t v bs ss, 0) := by
  obtain ⟨nn, rfl⟩ : ∃ nn : Nat, n = (nn : Int) := ⟨n.toNat, by omega⟩
  have f2 : ∀ rest, numR ⟨numB nn ++ rest, 0⟩ 1099511627776 = (⟨rest, 0⟩, (nn : Int)) := fun rest => num_feed (by omega) (by omega) rest
  have f3 : ∀ rest, digD ⟨numB 8 ++ (t ++ rest), 0⟩ = (⟨rest, 0⟩, t, 0) := fun rest => dig_feed ht rest
  have f4 : ∀ rest, digD ⟨numB 8 ++ (v ++ rest), 0⟩ = (⟨rest, 0⟩, v, 0) := fun rest => dig_feed hv rest
  have f5 : ∀ rest, someR ⟨numB bs.length ++ (bs ++ rest), 0⟩ 4096 = (⟨rest, 0⟩, bs) := fun rest => some_feed (by omega) (by omega) rest
  have f6 : ∀ rest, someR ⟨numB ss.length ++ (ss ++ rest), 0⟩ 4096 = (⟨rest, 0⟩, ss) := fun rest => some_feed (by omega) (by omega) rest
  have f7 : someR ⟨numB ss.length ++ ss, 0⟩ 4096 = (⟨[], 0⟩, ss) := by have := f6 []; rwa [List.append_nil] at this
  rcases hk with rfl | rfl
  · have f1 : ∀ rest, numR ⟨numB 0 ++ rest, 0⟩ 1 = (⟨rest, 0⟩, ((0 : Nat) : Int)) := fun rest => num_feed (by decide) (by omega) rest
    rw [enc0]
    unfold decP
    simp only [Int.toNat_natCast, f1, f3, f2]
    unfold decP1 decEnd
    simp only [f5, f7]
    rfl
  · have f1 : ∀ rest, numR ⟨numB 1 ++ rest, 0⟩ 1 = (⟨rest, 0⟩, ((1 : Nat) : Int)) := fun rest => num_feed (by decide) (by omega) rest
    rw [enc1]
    unfold decP
    simp only [Int.toNat_natCast, f1, f3, f2]
    unfold decP1 decEnd
    simp only [f4, f5, f7]
    rfl
theorem enc_dec {bs : List Int} (ho : ByOk bs) (h : (decP bs).2 = 0) {T : Tg} (hT : (decP bs).1 = T) :
    encT T.k (placeN T.k T.n T.m) (placeT T.k T.t T.u) (placeA T.k T.v) (textT T.k T.ps T.qs) T.ss = bs ∧ checkT T.k T.n T.m T.t T.u T.v T.ps T.qs T.ss = 0 := by
  subst hT
  unfold decP at h ⊢
  obtain ⟨a, ha⟩ : ∃ a, numR ⟨bs, 0⟩ 1 = a := ⟨_, rfl⟩
  have hr := num_rng (s := ⟨bs, 0⟩) ho (most := 1) (by omega)
  rw [ha] at h hr ⊢
  by_cases h1 : (digD a.1).2.2 = 0
  · rw [if_pos h1] at h ⊢
    obtain ⟨e1, e2, e3⟩ : a.1.err = 0 ∧ bs = numB a.2.toNat ++ a.1.rest ∧ ByOk a.1.rest := by
      have hae : a.1.err = 0 := by
        rcases Decidable.em (a.1.err = 0) with h0 | h0
        · exact h0
        · have : (digD a.1).2.2 = a.1.err := by unfold digD; rw [some_bad h0, if_neg h0]
          rw [this] at h1; exact absurd h1 h0
      have := num_eat (s := ⟨bs, 0⟩) ho (m := 1) (by rw [ha]; exact hae)
      rw [ha] at this
      exact ⟨hae, this.2.1, this.2.2⟩
    obtain ⟨-, e4, e5, e6⟩ := dig_eat e3 h1
    obtain ⟨b, hb⟩ : ∃ b, digD a.1 = b := ⟨_, rfl⟩
    rw [hb] at e4 e5 e6 h ⊢
    obtain ⟨d, hd⟩ : ∃ d, numR b.1 1099511627776 = d := ⟨_, rfl⟩
    have hdr := num_rng (s := b.1) e5 (most := 1099511627776) (by omega)
    have he7 : d.1.err = 0 → b.1.rest = numB d.2.toNat ++ d.1.rest ∧ ByOk d.1.rest := fun hx => by
      have := num_eat (s := b.1) e5 (m := 1099511627776) (by rw [hd]; exact hx)
      rw [hd] at this; exact this.2
    rw [hd] at h hdr ⊢
    unfold decP1 at h ⊢
    by_cases hk : a.2 = 0
    · rw [if_pos hk] at h ⊢
      unfold decEnd at h ⊢
      by_cases hE : endR (someR (someR d.1 4096).1 4096).1 = 0
      · rw [if_pos hE]
        have q1 := end_eat hE
        have q2 : (someR d.1 4096).1.err = 0 := by
          rcases Decidable.em ((someR d.1 4096).1.err = 0) with h0 | h0
          · exact h0
          · have := q1.1; rw [some_bad h0] at this; exact absurd this h0
        have q3 : d.1.err = 0 := by
          rcases Decidable.em (d.1.err = 0) with h0 | h0
          · exact h0
          · have := q2; rw [some_bad h0] at this; exact absurd this h0
        obtain ⟨e7, e8⟩ := he7 q3
        obtain ⟨-, g1, g2, g3⟩ := some_eat e8 q2
        obtain ⟨-, g4, -, g5⟩ := some_eat g2 q1.1
        rw [q1.2, List.append_nil] at g4
        obtain ⟨f, hf⟩ : ∃ f, someR d.1 4096 = f := ⟨_, rfl⟩
        rw [hf] at g1 g3 g4 g5 ⊢
        constructor
        · show encT a.2 (placeN a.2 d.2 0) (placeT a.2 b.2.1 zeroD) (placeA a.2 zeroD) (textT a.2 f.2 []) (someR f.1 4096).2 = bs
          rw [placeN, placeT, textT, if_pos hk, if_pos hk, if_pos hk, hk, enc0, e2, hk, e4, e7, g1, g4]
          rfl
        · show checkT a.2 d.2 0 b.2.1 zeroD zeroD f.2 [] (someR f.1 4096).2 = 0
          unfold checkT
          rw [if_pos (Or.inl hk), if_pos (by unfold aloneB; rw [if_pos hk]; rfl), if_pos]
          rw [if_pos hk, if_pos hk]
          exact ⟨hdr.1, hdr.2, by omega, by omega⟩
      · rw [if_neg hE] at h; exact absurd h hE
    · rw [if_neg hk] at h ⊢
      have hk1 : a.2 = 1 := by omega
      by_cases h2 : (digD d.1).2.2 = 0
      · rw [if_pos h2] at h ⊢
        unfold decEnd at h ⊢
        by_cases hE : endR (someR (someR (digD d.1).1 4096).1 4096).1 = 0
        · rw [if_pos hE]
          have q1 := end_eat hE
          have q2 : (someR (digD d.1).1 4096).1.err = 0 := by
            rcases Decidable.em ((someR (digD d.1).1 4096).1.err = 0) with h0 | h0
            · exact h0
            · have := q1.1; rw [some_bad h0] at this; exact absurd this h0
          have q3 : d.1.err = 0 := by
            rcases Decidable.em (d.1.err = 0) with h0 | h0
            · exact h0
            · have : (digD d.1).2.2 = d.1.err := by unfold digD; rw [some_bad h0, if_neg h0]
              rw [this] at h2; exact absurd h2 h0
          obtain ⟨e7, e8⟩ := he7 q3
          obtain ⟨-, x1, x2, -⟩ := dig_eat e8 h2
          obtain ⟨x, hx⟩ : ∃ x, digD d.1 = x := ⟨_, rfl⟩
          rw [hx] at x1 x2 q1 q2 ⊢
          obtain ⟨-, g1, g2, g3⟩ := some_eat x2 q2
          obtain ⟨-, g4, -, g5⟩ := some_eat g2 q1.1
          rw [q1.2, List.append_nil] at g4
          obtain ⟨f, hf⟩ : ∃ f, someR x.1 4096 = f := ⟨_, rfl⟩
          rw [hf] at g1 g3 g4 g5 ⊢
          constructor
          · show encT a.2 (placeN a.2 0 d.2) (placeT a.2 zeroD b.2.1) (placeA a.2 x.2.1) (textT a.2 [] f.2) (someR f.1 4096).2 = bs
            rw [placeN, placeT, placeA, textT, if_neg hk, if_neg hk, if_neg hk, if_neg hk, if_pos hk1, if_pos hk1, if_pos hk1, hk1, enc1, e2, hk1, e4, e7, x1, g1, g4]
            rfl
          · show checkT a.2 0 d.2 zeroD b.2.1 x.2.1 [] f.2 (someR f.1 4096).2 = 0
            unfold checkT
            rw [if_pos (Or.inr hk1), if_pos (by unfold aloneB; rw [if_neg hk]; rfl), if_pos]
            rw [if_neg hk, if_neg hk]
            exact ⟨hdr.1, hdr.2, by omega, by omega⟩
        · rw [if_neg hE] at h; exact absurd h hE
      · rw [if_neg h2] at h; exact absurd h h2
  · rw [if_neg h1] at h; exact absurd h h1
end Go.Proofs.Ythibihjblodfmaa
