/- Blocks and their bytes: the plain law. -/
import Derived.Test.YtbpmomedhdmloaaDoorE1
namespace Go.Proofs.YtbpmomedhdmloaaDoor
set_option linter.unusedSimpArgs false
set_option linter.unusedVariables false
open Go.RowKit Go.Maps

theorem enum_feed {n : Nat} {m : Int} (hn : (n : Int) ≤ m) (h64 : n < 18446744073709551616) (rest : List Int) : numR ⟨numB n ++ rest, 0⟩ m = (⟨rest, 0⟩, (n : Int)) := by
  unfold numR
  rw [if_pos rfl, look_num n h64 rest, if_pos rfl, if_pos hn, List.drop_left]
theorem esome_feed {xs : List Int} {m : Int} (hn : (xs.length : Int) ≤ m) (h64 : xs.length < 18446744073709551616) (rest : List Int) : someR ⟨lstB xs ++ rest, 0⟩ m = (⟨rest, 0⟩, xs) := by
  have e : lstB xs ++ rest = numB xs.length ++ (xs ++ rest) := by rw [lstB, List.append_assoc]
  rw [e]
  unfold someR
  rw [if_pos rfl, look_num xs.length h64 (xs ++ rest), if_pos rfl, if_pos hn]
  have h1 : (numB xs.length ++ (xs ++ rest)).length - (numB xs.length).length = xs.length + rest.length := by simp
  show (if (xs.length : Int) ≤ (((numB xs.length ++ (xs ++ rest)).length - (numB xs.length).length : Nat) : Int) then _ else _) = _
  rw [h1, if_pos (by omega)]
  show ((⟨((numB xs.length ++ (xs ++ rest)).drop (numB xs.length).length).drop xs.length, 0⟩ : Rd), ((numB xs.length ++ (xs ++ rest)).drop (numB xs.length).length).take xs.length) = _
  rw [List.drop_left, List.drop_left, List.take_left]
theorem enum_eat {s : Rd} (hs : ByOk s.rest) {m : Int} {s' : Rd} {v : Int} (hR : numR s m = (s', v)) (h : s'.err = 0) : s.err = 0 ∧ s.rest = numB v.toNat ++ s'.rest ∧ ByOk s'.rest := by
  have e1 : (numR s m).1 = s' := by rw [hR]
  have e2 : (numR s m).2 = v := by rw [hR]
  subst e1; subst e2
  have he : s.err = 0 := by
    rcases Decidable.em (s.err = 0) with h0 | h0
    · exact h0
    · rw [num_bad h0] at h; exact absurd h h0
  by_cases hl : (lookB s.rest).2.2 = 0
  · by_cases hm : (lookB s.rest).1 ≤ m
    · rw [num_yes he hl hm]
      have hb := look_back s.rest (lookB s.rest).1 (lookB s.rest).2.1 hs (by rw [← hl])
      refine ⟨he, ?_, hs.drop _⟩
      show s.rest = numB (lookB s.rest).1.toNat ++ s.rest.drop (lookB s.rest).2.1
      rw [← hb.2.2.2.2, List.take_append_drop]
    · rw [num_range he hl (by omega)] at h; exact absurd h (by show ¬ (2 : Int) = 0; decide)
  · rw [num_look he hl] at h; exact absurd h hl
theorem esome_eat {s : Rd} (hs : ByOk s.rest) {m : Int} {s' : Rd} {x : List Int} (hR : someR s m = (s', x)) (h : s'.err = 0) : s.err = 0 ∧ s.rest = lstB x ++ s'.rest ∧ ByOk s'.rest := by
  have e1 : (someR s m).1 = s' := by rw [hR]
  have e2 : (someR s m).2 = x := by rw [hR]
  subst e1; subst e2
  have he : s.err = 0 := by
    rcases Decidable.em (s.err = 0) with h0 | h0
    · exact h0
    · rw [some_bad h0] at h; exact absurd h h0
  by_cases hl : (lookB s.rest).2.2 = 0
  · by_cases hm : (lookB s.rest).1 ≤ m
    · by_cases hr : (lookB s.rest).1 ≤ ((s.rest.length - (lookB s.rest).2.1 : Nat) : Int)
      · rw [some_yes he hl hm hr]
        have hb := look_back s.rest (lookB s.rest).1 (lookB s.rest).2.1 hs (by rw [← hl])
        obtain ⟨h0, -, -, hle, ht⟩ := hb
        have hlen : ((s.rest.drop (lookB s.rest).2.1).take (lookB s.rest).1.toNat).length = (lookB s.rest).1.toNat := by rw [List.length_take, List.length_drop]; omega
        refine ⟨he, ?_, (hs.drop _).drop _⟩
        show s.rest = lstB ((s.rest.drop (lookB s.rest).2.1).take (lookB s.rest).1.toNat) ++ (s.rest.drop (lookB s.rest).2.1).drop (lookB s.rest).1.toNat
        rw [lstB, hlen, List.append_assoc, List.take_append_drop, ← ht, List.take_append_drop]
      · rw [some_short he hl hm (by omega)] at h; exact absurd h (by show ¬ (4 : Int) = 0; decide)
    · rw [some_range he hl (by omega)] at h; exact absurd h (by show ¬ (2 : Int) = 0; decide)
  · rw [some_look he hl] at h; exact absurd h hl
theorem from_num {d : List Int} (h : DgOk d) : fromG (numG d) = d := by
  obtain ⟨x0, x1, x2, x3, x4, x5, x6, x7, rfl⟩ := list8 d h.len
  have b0 := h.byt x0 (by simp); have b1 := h.byt x1 (by simp); have b2 := h.byt x2 (by simp); have b3 := h.byt x3 (by simp)
  have b4 := h.byt x4 (by simp); have b5 := h.byt x5 (by simp); have b6 := h.byt x6 (by simp); have b7 := h.byt x7 (by simp)
  simp only [fromG, numG, List.range, List.range.loop, List.map_cons, List.map_nil]
  refine congr (congrArg List.cons ?_) (congr (congrArg List.cons ?_) (congr (congrArg List.cons ?_) (congr (congrArg List.cons ?_) (congr (congrArg List.cons ?_) (congr (congrArg List.cons ?_) (congr (congrArg List.cons ?_) (congr (congrArg List.cons ?_) rfl))))))) <;> (simp only [show (256 : Int) ^ 0 = 1 by decide, show (256 : Int) ^ 1 = 256 by decide, show (256 : Int) ^ 2 = 65536 by decide, show (256 : Int) ^ 3 = 16777216 by decide, show (256 : Int) ^ 4 = 4294967296 by decide, show (256 : Int) ^ 5 = 1099511627776 by decide, show (256 : Int) ^ 6 = 281474976710656 by decide, show (256 : Int) ^ 7 = 72057594037927936 by decide]; omega)
theorem num_from {n : Int} (h0 : 0 ≤ n) (h1 : n < 18446744073709551616) : numG (fromG n) = n := by
  simp only [fromG, numG, List.range, List.range.loop, List.map_cons, List.map_nil]
  simp only [show (256 : Int) ^ 0 = 1 by decide, show (256 : Int) ^ 1 = 256 by decide, show (256 : Int) ^ 2 = 65536 by decide, show (256 : Int) ^ 3 = 16777216 by decide, show (256 : Int) ^ 4 = 4294967296 by decide, show (256 : Int) ^ 5 = 1099511627776 by decide, show (256 : Int) ^ 6 = 281474976710656 by decide, show (256 : Int) ^ 7 = 72057594037927936 by decide]
  omega
theorem numN_from {n : Int} (h0 : 0 ≤ n) (h1 : n ≤ 18446744073709551615) : numN (fromG n) = n.toNat := by unfold numN; rw [num_from h0 (by omega)]
theorem from_numN {d : List Int} (h : DgOk d) : fromG ((numN d : Nat) : Int) = d := by rw [← numN_eq h, from_num h]
theorem u64N_nat {n : Int} (h0 : 0 ≤ n) (h1 : n < 18446744073709551616) : u64N n = n.toNat := by
  unfold u64N; rw [IntKind.wrap_u64]; omega
/-- A transaction that may be is read as it was told, whatever stands behind it. -/
theorem tx_feed {t : TxT} (ht : txE t = 0) (hok : TxOk t) (rest : List Int) : txRd (txB t ++ rest) = txFin (endR ⟨rest, 0⟩) t := by
  have hf := txE_fit ht
  have hln := fit_len hf
  unfold txFit at hf
  simp only [Bool.and_eq_true, decide_eq_true_eq] at hf
  obtain ⟨⟨⟨n0, n1⟩, e0, e1⟩, ⟨k0, k1⟩, b1, s1⟩ := hf
  have e : txB t ++ rest = numB (u64N t.k) ++ (numB (numN t.f) ++ (numB (u64N t.n) ++ (numB (u64N t.e) ++ (lstB t.b ++ (lstB t.s ++ rest))))) := by
    simp [txB, unsB, List.append_assoc]
  have a1 := u64N_nat k0 (by omega); have a2 := u64N_nat n0 (by omega); have a3 := u64N_nat e0 (by omega)
  have hN := numN_lt hok.f
  rw [e, txRd, enum_feed (by omega) (by omega), txR1]
  show txR2 _ (numR ⟨numB (numN t.f) ++ _, 0⟩ _) = _
  rw [enum_feed (by omega) hN, txR2]
  show txR3 _ _ (numR ⟨numB (u64N t.n) ++ _, 0⟩ _) = _
  rw [enum_feed (by omega) (by omega), txR3]
  show txR4 _ _ _ (numR ⟨numB (u64N t.e) ++ _, 0⟩ _) = _
  rw [enum_feed (by omega) (by omega), txR4]
  show txR5 _ _ _ _ (someR ⟨lstB t.b ++ _, 0⟩ _) = _
  rw [esome_feed (by omega) (by omega), txR5]
  show txR6 _ _ _ _ _ (someR ⟨lstB t.s ++ _, 0⟩ _) = _
  rw [esome_feed (by omega) (by omega), txR6]
  show txFin (endR ⟨rest, 0⟩) ⟨fromG ((numN t.f : Nat) : Int), ((u64N t.n : Nat) : Int), ((u64N t.e : Nat) : Int), ((u64N t.k : Nat) : Int), t.b, t.s⟩ = _
  rw [from_numN hok.f, a1, a2, a3, Int.toNat_of_nonneg k0, Int.toNat_of_nonneg n0, Int.toNat_of_nonneg e0]
theorem tx_round {t : TxT} (ht : txE t = 0) (hok : TxOk t) : txRd (txB t) = (t, 0) := by
  have := tx_feed ht hok []
  rw [List.append_nil] at this
  rw [this, txFin, if_neg (by simp [endR]), if_neg (by simp [ht])]
theorem endR_zero {s : Rd} (h : endR s = 0) : s.err = 0 ∧ s.rest = [] := by
  unfold endR at h
  by_cases he : s.err = 0
  · rw [if_pos he] at h
    by_cases hr : s.rest = []
    · exact ⟨he, hr⟩
    · rw [if_neg hr] at h; cases h
  · rw [if_neg he] at h; exact absurd h he
theorem txFin_zero {e : Int} {t u : TxT} (h : txFin e t = (u, 0)) : e = 0 ∧ u = t ∧ txE t = 0 := by
  unfold txFin at h
  by_cases he : e = 0
  · rw [if_neg (by simp [he])] at h
    by_cases ht : txE t = 0
    · rw [if_neg (by simp [ht])] at h; injection h with h1 _; exact ⟨he, h1.symm, ht⟩
    · rw [if_pos ht] at h; injection h with _ h2; exact absurd h2 ht
  · rw [if_pos he] at h; injection h with _ h2; exact absurd h2 he
/-- What was read is told as just these bytes. -/
theorem tx_eat {bs : List Int} (hb : ByOk bs) {u : TxT} (h : txRd bs = (u, 0)) : bs = txB u ∧ txE u = 0 ∧ TxOk u := by
  obtain ⟨⟨s1, k⟩, r1⟩ : ∃ R, numR ⟨bs, 0⟩ 2 = R := ⟨_, rfl⟩
  obtain ⟨⟨s2, f⟩, r2⟩ : ∃ R, numR s1 18446744073709551615 = R := ⟨_, rfl⟩
  obtain ⟨⟨s3, n⟩, r3⟩ : ∃ R, numR s2 1099511627776 = R := ⟨_, rfl⟩
  obtain ⟨⟨s4, e⟩, r4⟩ : ∃ R, numR s3 1125899906842624 = R := ⟨_, rfl⟩
  obtain ⟨⟨s5, b⟩, r5⟩ : ∃ R, someR s4 32768 = R := ⟨_, rfl⟩
  obtain ⟨⟨s6, q⟩, r6⟩ : ∃ R, someR s5 1024 = R := ⟨_, rfl⟩
  rw [txRd, r1, txR1] at h
  change txR2 k (numR s1 _) = _ at h
  rw [r2, txR2] at h
  change txR3 k f (numR s2 _) = _ at h
  rw [r3, txR3] at h
  change txR4 k f n (numR s3 _) = _ at h
  rw [r4, txR4] at h
  change txR5 k f n e (someR s4 _) = _ at h
  rw [r5, txR5] at h
  change txR6 k f n e b (someR s5 _) = _ at h
  rw [r6, txR6] at h
  obtain ⟨h0, rfl, ht⟩ := txFin_zero h
  change endR s6 = 0 at h0
  obtain ⟨e6, z6⟩ := endR_zero h0
  have o1 := numR_rngE (s := ⟨bs, 0⟩) (m := 2) hb (by decide)
  rw [r1] at o1
  have o2 := numR_rngE (s := s1) (m := 18446744073709551615) o1.2.2 (by decide)
  rw [r2] at o2
  have o3 := numR_rngE (s := s2) (m := 1099511627776) o2.2.2 (by decide)
  rw [r3] at o3
  have o4 := numR_rngE (s := s3) (m := 1125899906842624) o3.2.2 (by decide)
  rw [r4] at o4
  have o5 := someR_okE (s := s4) o4.2.2 32768
  rw [r5] at o5
  have o6 := someR_okE (s := s5) o5.2 1024
  rw [r6] at o6
  obtain ⟨e5, z5, _⟩ := esome_eat o5.2 r6 e6
  obtain ⟨e4, z4, _⟩ := esome_eat o4.2.2 r5 e5
  obtain ⟨e3, z3, _⟩ := enum_eat o3.2.2 r4 e4
  obtain ⟨e2, z2, _⟩ := enum_eat o2.2.2 r3 e3
  obtain ⟨e1, z1, _⟩ := enum_eat o1.2.2 r2 e2
  obtain ⟨_, z0, _⟩ := enum_eat (s := ⟨bs, 0⟩) hb r1 e1
  have v1 : 0 ≤ k ∧ k ≤ 2 := ⟨o1.1, o1.2.1⟩; have v2 : 0 ≤ f ∧ f ≤ 18446744073709551615 := ⟨o2.1, o2.2.1⟩; have v3 : 0 ≤ n ∧ n ≤ 1099511627776 := ⟨o3.1, o3.2.1⟩; have v4 : 0 ≤ e ∧ e ≤ 1125899906842624 := ⟨o4.1, o4.2.1⟩
  refine ⟨?_, ht, fromG_ok f, o5.1, o6.1, ?_, ?_, ?_⟩
  · change bs = _ at z0
    rw [z0, z1, z2, z3, z4, z5, z6]
    show _ = ((((numB (u64N k) ++ numB (numN (fromG f))) ++ numB (u64N n)) ++ numB (u64N e)) ++ lstB b) ++ lstB q
    rw [u64N_nat v1.1 (by omega), u64N_nat v3.1 (by omega), u64N_nat v4.1 (by omega), numN_from v2.1 v2.2]
    simp [List.append_assoc]
  · show _ ≤ n ∧ n < _; omega
  · show _ ≤ e ∧ e < _; omega
  · show _ ≤ k ∧ k < _; omega
end Go.Proofs.YtbpmomedhdmloaaDoor
