/- What the law asks of the program's thing. -/
import Derived.Test.YthibihjblodfmaaQ16
import Derived.Test.YthibihjblodfmaaQ14
import Derived.Test.YthibihjblodfmaaQ15
import Derived.Test.YthibihjblodfmaaQ3
import Derived.Test.YthibihjblodfmaaP4
namespace Go.Proofs.Ythibihjblodfmaa
open Go.RowKit

/-- What 'Of' hands back, as the law needs it. -/
def RetOf (k n : Int) (t v : List Int) (B : Option Addr) (N M D : Nat) (o : Bool) (bs ss : List Int) (w : World) (e : Ending) (w' : World) : Prop :=
  ∃ (T : Tg) (A1 A2 : Option Addr) (N1 N2 C1 C2 : Nat), e = .returned (.agg (thC T.k T.n T.m T.t T.u T.v (.slice A1 N1 C1) (.slice A2 N2 C2) (.slice B M D)).toArray) ∧ (DgOk T.t ∧ DgOk T.u ∧ DgOk T.v) ∧ Sls w' w'.heap.size A1 A2 B N1 N2 M T.ps T.qs T.ss ∧
    checkT T.k T.n T.m T.t T.u T.v T.ps T.qs T.ss = rcheckT k n N M o ∧ (rcheckT k n N M o = 0 → T = ofT k n t v bs ss) ∧ Below w.heap.size w w'
theorem eqL_z : eqL zeroD zeroD = true := eqL_self _
theorem of_tg {w w' : World} {k n : Int} {t v : List Int} {A B : Option Addr} {N C M D : Nat} {o : Bool} {bs ss : List Int} {e : Ending} (h : OfR w k n t v (.slice A N C) (.slice B M D) o e w') (ht : DgOk t) (hv : DgOk v)
    (hb : Sl w w.heap.size 1 A N (bs.map (.int .u8))) (hs : Sl w w.heap.size 1 B M (ss.map (.int .u8))) (hbo : ByOk bs) (hso : ByOk ss) : RetOf k n t v B N M D o bs ss w e w' := by
  have hret := h.ret
  have hbel := h.bel
  have lb := hb.length; have ls := hs.length
  have hb' := hb.later hbel; have hs' := hs.later hbel
  by_cases hk : k = 0
  · rw [if_pos hk] at hret
    subst hret
    refine ⟨⟨k, n, if o then 1 else 0, t, zeroD, zeroD, bs, [], ss⟩, A, none, N, 0, C, 0, rfl, ⟨ht, zero_ok, zero_ok⟩, ⟨hb', Sl.nil, hs', hbo, byOk_nil, hso⟩, ?_, fun hc => ?_, hbel⟩
    · show checkT k n (if o then 1 else 0) t zeroD zeroD bs [] ss = _
      unfold checkT rcheckT aloneB
      rw [if_pos (Or.inl hk), if_pos (Or.inl hk), if_pos hk, if_pos hk, if_pos hk, eqL_z, lb, ls]
      cases o <;> rfl
    · have ho : o = false := by
        cases o
        · rfl
        · unfold rcheckT at hc; rw [if_pos (Or.inl hk), if_pos rfl] at hc; exact absurd hc (by decide)
      subst ho
      rw [ofT, if_pos hk]; rfl
  · rw [if_neg hk] at hret
    obtain ⟨p, rfl, hp⟩ := hret
    cases o
    · have hp' : p = .slice none 0 0 := by simpa using hp
      subst hp'
      refine ⟨⟨k, 0, n, zeroD, t, v, [], bs, ss⟩, none, A, 0, N, 0, C, rfl, ⟨zero_ok, ht, hv⟩, ⟨Sl.nil, hb', hs', byOk_nil, hbo, hso⟩, ?_, fun _ => by rw [ofT, if_neg hk], hbel⟩
      show checkT k 0 n zeroD t v [] bs ss = _
      unfold checkT rcheckT aloneB
      rw [if_neg hk, if_neg hk, if_neg hk, eqL_z, lb, ls]
      rfl
    · have hp' : ∃ g, p = .slice (some ⟨g, 0, none⟩) 1 1 ∧ w.heap.size ≤ g ∧ Bk w' g 5 [.int .u8 0] := by simpa using hp
      obtain ⟨g, rfl, hg, hbk⟩ := hp'
      refine ⟨⟨k, 0, n, zeroD, t, v, [0], bs, ss⟩, some ⟨g, 0, none⟩, A, 1, N, 1, C, rfl, ⟨zero_ok, ht, hv⟩, ⟨Bk.sl hbk rfl (by omega) (fun _ _ h => h), hb', hs', fun b hb => by simp at hb; omega, hbo, hso⟩, ?_, fun hc => ?_, hbel⟩
      · show checkT k 0 n zeroD t v [0] bs ss = _
        unfold checkT rcheckT aloneB
        rw [if_neg hk, if_neg hk, if_neg hk, eqL_z]
        rfl
      · unfold rcheckT at hc
        split at hc
        · rw [if_pos rfl] at hc; exact absurd hc (by decide)
        · exact absurd hc (by decide)
theorem ofT_enc {k n : Int} {t v bs ss : List Int} (hk : k = 0 ∨ k = 1) {T : Tg} (h : T = ofT k n t v bs ss) : encT T.k (placeN T.k T.n T.m) (placeT T.k T.t T.u) (placeA T.k T.v) (textT T.k T.ps T.qs) T.ss = encT k n t v bs ss := by
  subst h
  rcases hk with rfl | rfl
  · rw [ofT, if_pos rfl]
    show encT 0 (placeN 0 n 0) (placeT 0 t zeroD) (placeA 0 zeroD) (textT 0 bs []) ss = _
    rw [enc0, enc0]; rfl
  · rw [ofT, if_neg (by decide)]; rfl
theorem rcheck_zero {k n : Int} {N M : Nat} {o : Bool} (h : rcheckT k n N M o = 0) : (k = 0 ∨ k = 1) ∧ 0 ≤ n ∧ n ≤ 1099511627776 ∧ N ≤ 4096 ∧ M ≤ 4096 := by
  unfold rcheckT at h
  by_cases h1 : k = 0 ∨ k = 1
  · rw [if_pos h1] at h
    by_cases h2 : o = true
    · rw [if_pos h2] at h; exact absurd h (by decide)
    · rw [if_neg h2] at h
      by_cases h3 : 0 ≤ n ∧ n ≤ 1099511627776 ∧ N ≤ 4096 ∧ M ≤ 4096
      · exact ⟨h1, h3⟩
      · rw [if_neg h3] at h; exact absurd h (by decide)
  · rw [if_neg h1] at h; exact absurd h (by decide)
end Go.Proofs.Ythibihjblodfmaa
