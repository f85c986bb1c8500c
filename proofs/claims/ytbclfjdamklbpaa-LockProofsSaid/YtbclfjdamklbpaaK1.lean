/- The bytes of a proof. Whether a proof may be told: the document's. A proof's bytes: the document's. Two proofs that are the same: the document's. -/
import Derived.Test.YtbclfjdamklbpaaLM
import Derived.Test.YtbclfjdamklbpaaL5
import Derived.Test.YtbclfjdamklbpaaLW
/-! The bytes of a proof. -/
namespace Go.Proofs.Ytbclfjdamklbpaa
set_option linter.unusedSimpArgs false
set_option linter.unusedVariables false
open Go.RowKit Go.Maps

/-- A proof's rows. -/
structure PfK (w : World) (k : List Int) (B : Option Addr) (M : Nat) (zs : List Int) (E : Option Addr) (Q : Nat) (ps : List Pc) : Prop where
  z : Sl w w.heap.size 1 B M (zs.map (.int .i64))
  p : Sl w w.heap.size 1 E Q (ps.map Pc.v)
  po : PcsOk w ps
  pn : ∀ p ∈ ps, p.n ≤ 5000
  k : DgOk k
  ml : M ≤ 12
  ql : Q ≤ 12
theorem PfK.later {w w' : World} {k : List Int} {B E : Option Addr} {M Q : Nat} {zs : List Int} {ps : List Pc} (h : PfK w k B M zs E Q ps) (hb : Below w.heap.size w w') : PfK w' k B M zs E Q ps :=
  ⟨h.z.later hb, h.p.later hb, h.po.later hb, h.pn, h.k, h.ml, h.ql⟩
def payB (z : Int) : Bool := decide (0 ≤ z) && decide (z ≤ 1125899906842624)
def sgnB (x : List Int) : Bool := decide (x.length ≤ 4096)
def pfOk (zs : List Int) (L : List (List Int)) : Bool := (decide (zs.length ≤ 8) && decide (L.length ≤ 8)) && (zs.all payB && L.all sgnB)
def pfHd (k : List Int) (n : Nat) : List Int := lstB k ++ numB n
def pfB (k zs : List Int) (L : List (List Int)) : List Int := ((pfHd k zs.length ++ nsB (zs.map Int.toNat)) ++ numB L.length) ++ ksB L
def RetPe (k zs : List Int) (L : List (List Int)) (w : World) (e : Ending) (w' : World) : Prop :=
  ∃ v, e = .returned (.tuple #[v, .int .i64 (if pfOk zs L then 0 else 2)]) ∧ OwnB w.heap.size (if pfOk zs L then pfB k zs L else []) w v w'
theorem ret_no {k zs : List Int} {L : List (List Int)} {w w' : World} (h : pfOk zs L = false) (hb : Below w.heap.size w w') : RetPe k zs L w (.returned (.tuple #[.slice none 0 0, .int .i64 2])) w' := by
  unfold RetPe
  rw [h]
  exact ⟨_, rfl, World.ownsRow_nil _ _ _ _, hb⟩
theorem ok_big {zs : List Int} {L : List (List Int)} (h : 8 < zs.length ∨ 8 < L.length) : pfOk zs L = false := by
  unfold pfOk
  rcases h with h | h
  · rw [decide_eq_false (by omega)]; rfl
  · rw [decide_eq_false (p := L.length ≤ 8) (by omega)]; simp
theorem ok_pay {zs : List Int} {L : List (List Int)} {z : Int} (hz : z ∈ zs) (h : payB z = false) : pfOk zs L = false := by
  have : zs.all payB = false := by
    rw [Bool.eq_false_iff]; intro hc
    have := List.all_eq_true.1 hc z hz
    rw [h] at this; cases this
  unfold pfOk; rw [this]; simp
theorem ok_sig {zs : List Int} {L : List (List Int)} {x : List Int} (hx : x ∈ L) (h : sgnB x = false) : pfOk zs L = false := by
  have : L.all sgnB = false := by
    rw [Bool.eq_false_iff]; intro hc
    have := List.all_eq_true.1 hc x hx
    rw [h] at this; cases this
  unfold pfOk; rw [this]; simp
theorem ok_yes {zs : List Int} {L : List (List Int)} (h1 : zs.length ≤ 8) (h2 : L.length ≤ 8) (h3 : ∀ z ∈ zs, payB z = true) (h4 : ∀ x ∈ L, sgnB x = true) : pfOk zs L = true := by
  unfold pfOk
  rw [decide_eq_true h1, decide_eq_true h2, List.all_eq_true.2 h3, List.all_eq_true.2 h4]; rfl
theorem ksB_le' : ∀ (L : List (List Int)), (∀ x ∈ L, x.length ≤ 5000) → (ksB L).length ≤ 5010 * L.length
  | [], _ => by simp [ksB]
  | x :: L, h => by
    have := ksB_le' L (fun y hy => h y (by simp [hy]))
    have h1 := lstB_len x
    have h2 := h x (by simp)
    simp only [ksB, List.flatMap_cons, List.length_append, List.length_cons] at this ⊢
    omega
theorem pfHd_le {n : Nat} {h : List Int} (hh : DgOk h) : (pfHd h n).length ≤ 30 := by
  have h1 := lstB_len h; have h3 := numB_le n
  simp only [pfHd, List.length_append]; have := hh.len; omega
theorem pay_facts {z : Int} (h : payB z = true) : 0 ≤ z ∧ z ≤ 1125899906842624 := by
  unfold payB at h
  simpa using h
theorem pfc_at {w : World} {B n : Nat} {A : Option Addr} {ps : List Pc} (h : Sl w B 1 A n (ps.map Pc.v)) {k : Nat} (hk : k < n) : ∃ b o p, A = some ⟨b, o, none⟩ ∧ ps[k]? = some p ∧ b < B ∧ w.cell? ⟨b, o + k, none⟩ = some (.slice p.A p.n p.c) := by
  obtain ⟨b, o, rfl, hb, hc⟩ := h.spot (by omega) (by omega)
  have hl := h.length
  obtain ⟨p, hp⟩ : ∃ p, ps[k]? = some p := ⟨ps[k]'(by omega), List.getElem?_eq_getElem _⟩
  exact ⟨b, o, p, rfl, hp, hb, hc k p.v (by rw [List.getElem?_map, hp]; rfl)⟩
theorem pright_any (n : Int) (w : World) :
    Calls Try.prog 51 #[.int .i64 n] w fun e w' => e = .returned (.bool (payB n)) ∧ w = w' := by
  go_enter Try.func51, Try.ntmps51
  go_wp2
  all_goals
    go_ret
    exact ⟨by simp [payB, *] <;> omega, rfl⟩
set_option maxRecDepth 20000 in
set_option maxHeartbeats 4000000 in
theorem penc_any (w : World) (k : List Int) (B : Option Addr) (M D : Nat) (zs : List Int) (E : Option Addr) (Q G : Nat) (ps : List Pc) (hk : PfK w k B M zs E Q ps) :
    Calls Try.prog 22 #[.agg (pfC k (.slice B M D) (.slice E Q G)).toArray] w (RetPe k zs (ps.map Pc.bs) w) := by
  obtain ⟨L, hL⟩ : ∃ L, ps.map Pc.bs = L := ⟨_, rfl⟩
  have HLL := Lib.hid hL
  rw [hL]
  clear hL
  obtain ⟨l, hl⟩ : ∃ x, pfC k (.slice B M D) (.slice E Q G) = x := ⟨_, rfl⟩
  obtain ⟨X, hX⟩ : ∃ X, l.toArray = X := ⟨_, rfl⟩
  obtain ⟨z, hz⟩ : ∃ z, w.heap.size = z := ⟨_, rfl⟩
  obtain ⟨w1, hw1⟩ : ∃ w1, w.alloc (.cells X 39) = w1 := ⟨_, rfl⟩
  have hb1 : Below w.heap.size w w1 := hw1 ▸ below_new w _
  have kx : Bk w1 z 39 l := hw1 ▸ Bk.at_ w _ X hz (by rw [← hX])
  have HPM : Hid (∀ w' g', Bk w' g' 39 l → PfM w' g' k (.slice B M D) (.slice E Q G)) := fun w' g' h' => by rw [← hl] at h'; exact pf_mem hk.k h'
  have HK0 := Lib.hid hk
  have HW := Lib.hid hw1; have HB1 := Lib.hid hb1; have HL1 := Lib.hid kx; have HHO := Lib.hid hk.k; have HZ := Lib.hid hz
  have HZL : Hid (zs.length = M) := hk.z.length
  have HPL : Hid (ps.length = Q) := hk.p.length
  rw [hl, hX]
  clear hl hX hw1 hb1 kx hk hz
  have HLQ : Hid (L.length = Q) := by rw [← HLL.out]; show _ = _; rw [List.length_map, HPL.out]
  have c8 := (HPM.out _ _ HL1.out).c8; have c9 := (HPM.out _ _ HL1.out).c9
  by_cases hM : M ≤ 8
  · by_cases hQ : Q ≤ 8
    · have h8M : ¬ ((8 : Int) < M) := by omega
      have h8Q : ¬ ((8 : Int) < Q) := by omega
      have HMQ : Hid (M ≤ 8 ∧ Q ≤ 8) := ⟨hM, hQ⟩
      have hu1 := u64_nat (k := M) (by omega); have hu2 := u64_nat (k := Q) (by omega)
      go_enter Try.func22, Try.ntmps22
      go_upto_region 1 with fail
      rw [HW.out, HZ.out]
      go_wp2_with fail
      clear c8 c9
      refine (putBytes_any w1 none (some ⟨z, 0, none⟩) 0 0 8 8 [] k Sl.nil (sl_rg HHO.out HL1.out.lt (HPM.out _ _ HL1.out).r0) (by omega) (by omega)).mono ?_
      rintro e2 w2 ⟨v2, rfl, hown⟩
      have hlb : [] ++ (numB 8 ++ k) = lstB k := by rw [lstB, HHO.out.len]; rfl
      rw [hlb] at hown
      obtain ⟨A2, c2, rfl⟩ := hown.form
      have HB2 := Lib.hid (below_then HB1.out hown.2); have HL2 := Lib.hid (HL1.out.later hown.2); have HO2 := Lib.hid (own_base hown.1 HB1.out.size)
      clear hown HB1 HL1 hlb
      have c8 := (HPM.out _ _ HL2.out).c8
      go_wp2_with fail
      clear c8
      refine (putNum_any w2 A2 _ c2 (lstB k) (Sl.of_own HO2.out) M (by show M < _; omega) (by have := lstB_len k; have := HHO.out.len; omega)).mono ?_
      rintro e2 w3 ⟨v3, rfl, hown⟩
      obtain ⟨A3, c3, rfl⟩ := hown.form
      have HB3 := Lib.hid (below_then HB2.out hown.2); have HL3 := Lib.hid (HL2.out.later hown.2); have HO3 := Lib.hid (own_base hown.1 HB2.out.size)
      clear hown HB2 HL2 HO2
      obtain ⟨hd, hhd⟩ : ∃ x, lstB k ++ numB M = x := ⟨_, rfl⟩
      have HHD := Lib.hid hhd
      have HHL : Hid (hd.length ≤ 30) := by show _ ≤ 30; rw [← hhd]; exact pfHd_le (n := M) HHO.out
      rw [hhd] at HO3 ⊢
      clear hhd
      have c8 := (HPM.out _ _ HL3.out).c8
      go_wp2_with fail
      clear c8
      obtain ⟨e0, he0⟩ : ∃ x, hd ++ nsB (zs.map Int.toNat) = x := ⟨_, rfl⟩
      have HE0 := Lib.hid he0
      have HEL : Hid (e0.length ≤ 110) := by show _ ≤ 110; rw [← he0, List.length_append]; have := nsB_le (zs.map Int.toNat); rw [List.length_map, HZL.out] at this; have := HHL.out; omega
      clear he0 hu1
      go_loopw [4, 6, 31] (fun bv _ iv wr => ∃ (j : Nat) (e : List Int) (v : Value), j ≤ M ∧ iv = .int .i64 j ∧ v = bv ∧ Hid (e = hd ++ nsB ((zs.map Int.toNat).take j)) ∧ Hid (∀ i, i < j → ∀ y, zs[i]? = some y → payB y = true) ∧ Hid (wr.ownsRow w.heap.size 5 1 v e.length (e.map (.int .u8))) ∧ Hid (Below w.heap.size w wr) ∧ Hid (Bk wr z 39 l)) (fun _ _ iv _ => M - (intOf iv).toNat)
      case atStart => exact ⟨0, hd, _, Nat.zero_le _, rfl, rfl, by show _ = _; simp [nsB], fun i hi => by omega, HO3, HB3, HL3⟩
      case round =>
        clear HO3 HB3 HL3
        obtain ⟨j, e, v, hj, rfl, hv, HE, HR, HO, HB, HL⟩ := hrel
        subst hv
        obtain ⟨B9, d9, h9⟩ := own_form HO.out
        subst h9
        by_cases hlt : j < M
        · have hki : (j : Int) < M := by omega
          obtain ⟨b, o, y, rfl, hy, hbl, hcell⟩ := int_at (HK0.out.later HB.out).z hlt
          have HY := Lib.hid hy
          clear hbl hy
          go_wp2_with fail
          refine (pright_any y wr).mono ?_
          rintro e wq ⟨rfl, hwq⟩
          subst hwq
          by_cases hyp : payB y = true
          · obtain ⟨hy0, hy1⟩ := pay_facts hyp
            obtain ⟨x, rfl⟩ : ∃ x : Nat, y = x := ⟨y.toNat, by omega⟩
            have hux := u64_nat (k := x) (by omega)
            have HXB : Hid (x < 18446744073709551616) := by show x < _; omega
            have HEN : Hid (e ++ numB x = hd ++ nsB ((zs.map Int.toNat).take (j + 1))) := by
              show _ = _
              rw [nsB_snoc (x := x) (by rw [List.getElem?_map, HY.out]; rfl), HE.out, List.append_assoc]
            have HEL9 : Hid (e.length ≤ 200) := by
              show _ ≤ 200
              have h1 := nsB_le ((zs.map Int.toNat).take j)
              have h2 : ((zs.map Int.toNat).take j).length ≤ 12 := by rw [List.length_take]; have := HK0.out.ml; omega
              have h3 := HHL.out
              rw [HE.out, List.length_append]; omega
            have HRN : Hid (∀ i, i < j + 1 → ∀ y, zs[i]? = some y → payB y = true) := fun i hi y hy => by
              by_cases hij : i < j
              · exact HR.out i hij y hy
              · obtain rfl : i = j := by omega
                rw [HY.out] at hy; injection hy with hy; subst hy; exact hyp
            obtain ⟨en, hen⟩ : ∃ y, e ++ numB x = y := ⟨_, rfl⟩
            have HEE := Lib.hid hen
            rw [hen] at HEN
            clear hen hy0 hy1
            rw [hyp]
            clear hyp
            go_wp2_with fail
            refine (putNum_any wr B9 e.length d9 e (Sl.of_own HO.out) _ HXB (by have := HEL9.out; omega)).mono ?_
            rintro e2 w6 ⟨v6, rfl, hown⟩
            obtain ⟨A6, c6, rfl⟩ := hown.form
            have HB6 := Lib.hid (below_then HB.out hown.2); have HO6 := Lib.hid (own_base hown.1 HB.out.size); have HL6 := Lib.hid (HL.out.later hown.2)
            clear hown HB HO HL hux
            rw [HEE.out] at HO6 ⊢
            clear HEE
            go_wp2_with fail
            go_roundw
            case rel => exact ⟨j + 1, en, _, hlt, by go_num, rfl, HEN, HRN, HO6, HB6, HL6⟩
            case measure => simp [intOf]; omega
          · have hyf : payB y = false := by simpa using hyp
            have HNO : Hid (pfOk zs L = false) := ok_pay (List.mem_of_getElem? HY.out) hyf
            rw [hyf]
            clear hyp hyf
            go_wp2_with fail
            go_ret2
            exact ret_no HNO.out HB.out
        · have hki : ¬ ((j : Int) < M) := by omega
          obtain rfl : M = j := by omega
          have he : e = e0 := by rw [HE.out, List.take_of_length_le (by rw [List.length_map, HZL.out]; exact Nat.le_refl _), HE0.out]
          subst he
          clear HE hlt hki
          have c9 := (HPM.out _ _ HL.out).c9
          go_wp2_with fail
          clear c9
          refine (putNum_any wr B9 _ d9 e (Sl.of_own HO.out) Q (by show Q < _; omega) (by have := HEL.out; omega)).mono ?_
          rintro e2 w4 ⟨v4, rfl, hown⟩
          obtain ⟨A4, c4, rfl⟩ := hown.form
          have HB4 := Lib.hid (below_then HB.out hown.2); have HL4 := Lib.hid (HL.out.later hown.2); have HO4 := Lib.hid (own_base hown.1 HB.out.size)
          clear hown HB HL HO hu2
          obtain ⟨f0, hf0⟩ : ∃ x, e ++ numB Q = x := ⟨_, rfl⟩
          have HF0 := Lib.hid hf0
          have HFL : Hid (f0.length ≤ 130) := by show _ ≤ 130; rw [← hf0, List.length_append]; have := numB_le Q; have := HEL.out; omega
          rw [hf0] at HO4 ⊢
          clear hf0
          have c9 := (HPM.out _ _ HL4.out).c9
          go_wp2_with fail
          clear c9
          go_loopw [4, 8, 52] (fun bv _ iv wr => ∃ (j : Nat) (e : List Int) (v : Value), j ≤ Q ∧ iv = .int .i64 j ∧ v = bv ∧ Hid (e = f0 ++ ksB (L.take j)) ∧ Hid (∀ i, i < j → ∀ y, L[i]? = some y → sgnB y = true) ∧ Hid (wr.ownsRow w.heap.size 5 1 v e.length (e.map (.int .u8))) ∧ Hid (Below w.heap.size w wr)) (fun _ _ iv _ => Q - (intOf iv).toNat)
          case atStart => exact ⟨0, f0, _, Nat.zero_le _, rfl, rfl, by show _ = _; simp [ksB], fun i hi => by omega, HO4, HB4⟩
          case round =>
            clear HO4 HB4 HL4
            obtain ⟨j, e, v, hj, rfl, hv, HE, HS, HO, HB⟩ := hrel
            subst hv
            obtain ⟨B9, d9, h9⟩ := own_form HO.out
            subst h9
            by_cases hlt : j < Q
            · have hki : (j : Int) < Q := by omega
              have hpp := pfc_at (HK0.out.later HB.out).p hlt
              obtain ⟨b, o, y, rfl, hy, hbl, hcell⟩ := hpp
              have hym := List.mem_of_getElem? hy
              have HPP := Lib.hid ((HK0.out.later HB.out).po y hym)
              have hpn := HK0.out.pn y hym
              have HYL : Hid (y.bs.length = y.n) := (HK0.out.po y hym).length
              have HY : Hid (L[j]? = some y.bs) := by rw [← HLL.out]; show _ = _; rw [List.getElem?_map, hy]; rfl
              clear hbl hy hym
              by_cases hyp : y.n ≤ 4096
              · have hyi : ¬ ((4096 : Int) < y.n) := by omega
                have hyp' : sgnB y.bs = true := by unfold sgnB; rw [HYL.out]; simpa using hyp
                have HEN : Hid (e ++ (numB y.n ++ y.bs) = f0 ++ ksB (L.take (j + 1))) := by
                  show _ = _
                  rw [ksB_snoc HY.out, HE.out, lstB, HYL.out, List.append_assoc]
                have HEL9 : Hid (e.length ≤ 70000) := by
                  show _ ≤ 70000
                  have h1 := ksB_le' (L.take j) (fun x hx => by
                    have hx := List.mem_of_mem_take hx
                    rw [← HLL.out] at hx
                    obtain ⟨p, hp, rfl⟩ := List.mem_map.1 hx
                    have := (HK0.out.po p hp).length; have := HK0.out.pn p hp; omega)
                  have h2 : (L.take j).length ≤ 12 := by rw [List.length_take]; have := HK0.out.ql; omega
                  have h3 := HFL.out
                  rw [HE.out, List.length_append]; omega
                have HRN : Hid (∀ i, i < j + 1 → ∀ y, L[i]? = some y → sgnB y = true) := fun i hi x hx => by
                  by_cases hij : i < j
                  · exact HS.out i hij x hx
                  · obtain rfl : i = j := by omega
                    rw [HY.out] at hx; injection hx with hx; subst hx; exact hyp'
                obtain ⟨en, hen⟩ : ∃ x, e ++ (numB y.n ++ y.bs) = x := ⟨_, rfl⟩
                have HPB := Lib.hid (putBytes_any wr B9 y.A e.length d9 y.n y.c e y.bs (Sl.of_own HO.out) HPP.out (by have := HEL9.out; omega) (by omega))
                rw [hen] at HEN HPB
                clear hen hyp hyp'
                go_wp2_with fail
                refine HPB.out.mono ?_
                rintro e2 w6 ⟨v6, rfl, hown⟩
                obtain ⟨A6, c6, rfl⟩ := hown.form
                have HB6 := Lib.hid (below_then HB.out hown.2); have HO6 := Lib.hid (own_base hown.1 HB.out.size)
                clear hown HB HO HPB
                go_wp2_with fail
                go_roundw
                case rel => exact ⟨j + 1, en, _, hlt, by go_num, rfl, HEN, HRN, HO6, HB6⟩
                case measure => simp [intOf]; omega
              · have hyi : (4096 : Int) < y.n := by omega
                have HNO : Hid (pfOk zs L = false) := ok_sig (List.mem_of_getElem? HY.out) (by unfold sgnB; rw [HYL.out]; simpa using hyp)
                clear hyp
                go_wp2_with fail
                go_ret2
                exact ret_no HNO.out HB.out
            · have hki : ¬ ((j : Int) < Q) := by omega
              obtain rfl : Q = j := by omega
              have hok : pfOk zs L = true := ok_yes (by rw [HZL.out]; exact HMQ.out.1) (by rw [HLQ.out]; exact HMQ.out.2)
                (fun y hy => by obtain ⟨i, hi⟩ := List.getElem?_of_mem hy; exact HR.out i (by have := (List.getElem?_eq_some_iff.1 hi).1; rw [HZL.out] at this; exact this) y hi)
                (fun y hy => by obtain ⟨i, hi⟩ := List.getElem?_of_mem hy; exact HS.out i (by have := (List.getElem?_eq_some_iff.1 hi).1; rw [HLQ.out] at this; exact this) y hi)
              have HFIN : Hid (pfB k zs L = e) := by
                show _ = _
                rw [pfB, pfHd, HZL.out, HHD.out, HE0.out, HLQ.out, HF0.out, HE.out, List.take_of_length_le (by rw [HLQ.out]; exact Nat.le_refl _)]
              clear hlt hki HE
              go_wp2_with fail
              go_ret2
              unfold RetPe
              rw [hok]
              refine ⟨_, rfl, ?_, HB.out⟩
              rw [if_pos rfl, HFIN.out]; exact HO.out
    · have h8M : ¬ ((8 : Int) < M) := by omega
      have h8Q : (8 : Int) < Q := by omega
      have HNO : Hid (pfOk zs L = false) := ok_big (.inr (by rw [HLQ.out]; omega))
      go_enter Try.func22, Try.ntmps22
      go_upto_region 1 with fail
      rw [HW.out, HZ.out]
      go_wp2_with fail
      go_ret2
      exact ret_no HNO.out HB1.out
  · have h8M : (8 : Int) < M := by omega
    have HNO : Hid (pfOk zs L = false) := ok_big (.inl (by rw [HZL.out]; omega))
    go_enter Try.func22, Try.ntmps22
    go_upto_region 1 with fail
    rw [HW.out, HZ.out]
    go_wp2_with fail
    go_ret2
    exact ret_no HNO.out HB1.out
end Go.Proofs.Ytbclfjdamklbpaa

/-! Whether a proof may be told: the document's. -/
namespace Go.Proofs.Ytbclfjdamklbpaa
set_option linter.unusedSimpArgs false
set_option linter.unusedVariables false
open Go.RowKit Go.Maps

set_option maxRecDepth 20000 in
set_option maxHeartbeats 4000000 in
theorem ptold_any (w : World) (k : List Int) (B : Option Addr) (M D : Nat) (zs : List Int) (E : Option Addr) (Q G : Nat) (ps : List Pc) (hk : PfK w k B M zs E Q ps) :
    Calls Try.prog 23 #[.agg (pfC k (.slice B M D) (.slice E Q G)).toArray] w fun e w' => e = .returned (.bool (pfOk zs (ps.map Pc.bs))) ∧ Below w.heap.size w w' := by
  obtain ⟨L, hL⟩ : ∃ L, ps.map Pc.bs = L := ⟨_, rfl⟩
  have HLL := Lib.hid hL
  rw [hL]
  clear hL
  obtain ⟨l, hl⟩ : ∃ x, pfC k (.slice B M D) (.slice E Q G) = x := ⟨_, rfl⟩
  obtain ⟨X, hX⟩ : ∃ X, l.toArray = X := ⟨_, rfl⟩
  obtain ⟨z, hz⟩ : ∃ z, w.heap.size = z := ⟨_, rfl⟩
  obtain ⟨w1, hw1⟩ : ∃ w1, w.alloc (.cells X 58) = w1 := ⟨_, rfl⟩
  have hb1 : Below w.heap.size w w1 := hw1 ▸ below_new w _
  have kx : Bk w1 z 58 l := hw1 ▸ Bk.at_ w _ X hz (by rw [← hX])
  have HPM : Hid (∀ w' g', Bk w' g' 58 l → PfM w' g' k (.slice B M D) (.slice E Q G)) := fun w' g' h' => by rw [← hl] at h'; exact pf_mem hk.k h'
  have HK0 := Lib.hid hk
  have HW := Lib.hid hw1; have HB1 := Lib.hid hb1; have HL1 := Lib.hid kx; have HHO := Lib.hid hk.k; have HZ := Lib.hid hz
  have HZL : Hid (zs.length = M) := hk.z.length
  have HPL : Hid (ps.length = Q) := hk.p.length
  rw [hl, hX]
  clear hl hX hw1 hb1 kx hk hz
  have HLQ : Hid (L.length = Q) := by rw [← HLL.out]; show _ = _; rw [List.length_map, HPL.out]
  have c8 := (HPM.out _ _ HL1.out).c8; have c9 := (HPM.out _ _ HL1.out).c9
  by_cases hM : M ≤ 8
  · by_cases hQ : Q ≤ 8
    · have h8M : ¬ ((8 : Int) < M) := by omega
      have h8Q : ¬ ((8 : Int) < Q) := by omega
      have HMQ : Hid (M ≤ 8 ∧ Q ≤ 8) := ⟨hM, hQ⟩
      go_enter Try.func23, Try.ntmps23
      go_upto_region 1 with fail
      rw [HW.out, HZ.out]
      go_wp2_with fail
      go_loopw [3] (fun iv wr => ∃ (j : Nat), j ≤ M ∧ iv = .int .i64 j ∧ w1 = wr ∧ Hid (∀ i, i < j → ∀ y, zs[i]? = some y → payB y = true)) (fun iv _ => M - (intOf iv).toNat)
      case atStart => exact ⟨0, Nat.zero_le _, rfl, rfl, fun i hi => by omega⟩
      case round =>
        obtain ⟨j, hj, rfl, rfl, HR⟩ := hrel
        by_cases hlt : j < M
        · have hki : (j : Int) < M := by omega
          obtain ⟨b, o, y, rfl, hy, hbl, hcell⟩ := int_at (HK0.out.later HB1.out).z hlt
          have HY := Lib.hid hy
          clear hbl hy
          by_cases hyp : payB y = true
          · obtain ⟨hy0, hy1⟩ := pay_facts hyp
            have hyl : ¬ (y < 0) := by omega
            have hyg : ¬ ((1125899906842624 : Int) < y) := by omega
            have HRN : Hid (∀ i, i < j + 1 → ∀ y, zs[i]? = some y → payB y = true) := fun i hi y hy => by
              by_cases hij : i < j
              · exact HR.out i hij y hy
              · obtain rfl : i = j := by omega
                rw [HY.out] at hy; injection hy with hy; subst hy; exact hyp
            clear hyp hy0 hy1
            go_wp2_with fail
            go_roundw
            case rel => exact ⟨j + 1, hlt, by go_num, trivial, HRN⟩
            case measure => simp [intOf]; omega
          · have hyf : payB y = false := by simpa using hyp
            have HNO : Hid (pfOk zs L = false) := ok_pay (List.mem_of_getElem? HY.out) hyf
            by_cases hy0 : y < 0
            · clear hyp hyf
              go_wp2_with fail
              go_ret
              exact ⟨by rw [HNO.out]; rfl, HB1.out⟩
            · have hy1 : (1125899906842624 : Int) < y := by
                unfold payB at hyf
                simp at hyf
                omega
              clear hyp hyf
              go_wp2_with fail
              go_ret
              exact ⟨by rw [HNO.out]; rfl, HB1.out⟩
        · have hki : ¬ ((j : Int) < M) := by omega
          obtain rfl : M = j := by omega
          clear hlt
          go_wp2_with fail
          go_loopw [4] (fun iv wr => ∃ (j : Nat), j ≤ Q ∧ iv = .int .i64 j ∧ w1 = wr ∧ Hid (∀ i, i < j → ∀ y, L[i]? = some y → sgnB y = true)) (fun iv _ => Q - (intOf iv).toNat)
          case atStart => exact ⟨0, Nat.zero_le _, rfl, rfl, fun i hi => by omega⟩
          case round =>
            obtain ⟨j, hj, rfl, rfl, HS⟩ := hrel
            by_cases hlt : j < Q
            · have hkj : (j : Int) < Q := by omega
              obtain ⟨b, o, y, rfl, hy, hbl, hcell⟩ := pfc_at (HK0.out.later HB1.out).p hlt
              have HYL : Hid (y.bs.length = y.n) := (HK0.out.po y (List.mem_of_getElem? hy)).length
              have HY : Hid (L[j]? = some y.bs) := by rw [← HLL.out]; show _ = _; rw [List.getElem?_map, hy]; rfl
              clear hbl hy
              by_cases hyp : y.n ≤ 4096
              · have hyi : ¬ ((4096 : Int) < y.n) := by omega
                have hyp' : sgnB y.bs = true := by unfold sgnB; rw [HYL.out]; simpa using hyp
                have HRN : Hid (∀ i, i < j + 1 → ∀ y, L[i]? = some y → sgnB y = true) := fun i hi x hx => by
                  by_cases hij : i < j
                  · exact HS.out i hij x hx
                  · obtain rfl : i = j := by omega
                    rw [HY.out] at hx; injection hx with hx; subst hx; exact hyp'
                clear hyp hyp'
                go_wp2_with fail
                go_roundw
                case rel => exact ⟨j + 1, hlt, by go_num, trivial, HRN⟩
                case measure => simp [intOf]; omega
              · have hyi : (4096 : Int) < y.n := by omega
                have HNO : Hid (pfOk zs L = false) := ok_sig (List.mem_of_getElem? HY.out) (by unfold sgnB; rw [HYL.out]; simpa using hyp)
                clear hyp
                go_wp2_with fail
                go_ret
                exact ⟨by rw [HNO.out]; rfl, HB1.out⟩
            · have hkj : ¬ ((j : Int) < Q) := by omega
              obtain rfl : Q = j := by omega
              have hok : Hid (pfOk zs L = true) := ok_yes (by rw [HZL.out]; exact HMQ.out.1) (by rw [HLQ.out]; exact HMQ.out.2)
                (fun y hy => by obtain ⟨i, hi⟩ := List.getElem?_of_mem hy; exact HR.out i (by have := (List.getElem?_eq_some_iff.1 hi).1; rw [HZL.out] at this; exact this) y hi)
                (fun y hy => by obtain ⟨i, hi⟩ := List.getElem?_of_mem hy; exact HS.out i (by have := (List.getElem?_eq_some_iff.1 hi).1; rw [HLQ.out] at this; exact this) y hi)
              clear hlt
              go_wp2_with fail
              go_ret
              exact ⟨by rw [hok.out]; rfl, HB1.out⟩
    · have h8M : ¬ ((8 : Int) < M) := by omega
      have h8Q : (8 : Int) < Q := by omega
      have HNO : Hid (pfOk zs L = false) := ok_big (.inr (by rw [HLQ.out]; omega))
      go_enter Try.func23, Try.ntmps23
      go_upto_region 1 with fail
      rw [HW.out, HZ.out]
      go_wp2_with fail
      go_ret
      exact ⟨by rw [HNO.out]; rfl, HB1.out⟩
  · have h8M : (8 : Int) < M := by omega
    have HNO : Hid (pfOk zs L = false) := ok_big (.inl (by rw [HZL.out]; omega))
    go_enter Try.func23, Try.ntmps23
    go_upto_region 1 with fail
    rw [HW.out, HZ.out]
    go_wp2_with fail
    go_ret
    exact ⟨by rw [HNO.out]; rfl, HB1.out⟩
end Go.Proofs.Ytbclfjdamklbpaa

/-! A proof's bytes: the document's. -/
namespace Go.Proofs.Ytbclfjdamklbpaa
set_option linter.unusedSimpArgs false
set_option linter.unusedVariables false
open Go.RowKit Go.Maps

/-- What stands while the document writes. -/
structure RpS (w0 w : World) (z : Nat) (l : List Value) (v : Value) (e : List Int) : Prop where
  lk : Bk w z 58 l
  ro : w.ownsRow w0.heap.size 5 1 v e.length (e.map (.int .u8))
  hb : Below w0.heap.size w0 w
section
variable {w0 w wn : World} {z : Nat} {l : List Value} {v v' : Value} {e : List Int}
theorem RpS.later (h : RpS w0 w z l v e) (hb : Below w.heap.size w wn) : RpS w0 wn z l v e := ⟨h.lk.later hb, own_keep h.ro hb, below_then h.hb hb⟩
theorem RpS.app (h : RpS w0 w z l v e) {y : List Int} (ho : wn.ownsRow w0.heap.size 5 1 v' (e.length + y.length) (e.map (.int .u8) ++ y.map (.int .u8))) (hg : w.grownBy wn v.ownBlock) : RpS w0 wn z l v' (e ++ y) :=
  ⟨h.lk.grown hg (Ne.symm (own_bk_ne h.ro h.lk (by decide))), by rw [List.length_append, List.map_append]; exact ho, grown_below h.hb h.ro hg (Nat.le_refl _) h.hb.size⟩
theorem RpS.form (h : RpS w0 w z l v e) : ∃ A c, v = .slice A e.length c := own_form h.ro
end
theorem ok_of {zs : List Int} {L : List (List Int)} (h : pfOk zs L = true) : zs.length ≤ 8 ∧ L.length ≤ 8 ∧ (∀ z ∈ zs, payB z = true) ∧ (∀ x ∈ L, sgnB x = true) := by
  unfold pfOk at h
  simp only [Bool.and_eq_true, decide_eq_true_eq, List.all_eq_true] at h
  exact ⟨h.1.1, h.1.2, h.2.1, h.2.2⟩
set_option maxRecDepth 20000 in
set_option maxHeartbeats 4000000 in
theorem pbytes_any (w : World) (k : List Int) (B : Option Addr) (M D : Nat) (zs : List Int) (E : Option Addr) (Q G : Nat) (ps : List Pc) (hk : PfK w k B M zs E Q ps) (hok : pfOk zs (ps.map Pc.bs) = true) :
    Calls Try.prog 25 #[.agg (pfC k (.slice B M D) (.slice E Q G)).toArray] w (RetB w.heap.size (pfB k zs (ps.map Pc.bs)) w) := by
  obtain ⟨L, hL⟩ : ∃ L, ps.map Pc.bs = L := ⟨_, rfl⟩
  have HLL := Lib.hid hL
  rw [hL] at hok ⊢
  have HPAY : Hid (∀ z ∈ zs, payB z = true) := (ok_of hok).2.2.1
  clear hL hok
  obtain ⟨l, hl⟩ : ∃ x, pfC k (.slice B M D) (.slice E Q G) = x := ⟨_, rfl⟩
  obtain ⟨X, hX⟩ : ∃ X, l.toArray = X := ⟨_, rfl⟩
  obtain ⟨z, hz⟩ : ∃ z, w.heap.size = z := ⟨_, rfl⟩
  obtain ⟨w1, hw1⟩ : ∃ w1, w.alloc (.cells X 58) = w1 := ⟨_, rfl⟩
  have hb1 : Below w.heap.size w w1 := hw1 ▸ below_new w _
  have kx : Bk w1 z 58 l := hw1 ▸ Bk.at_ w _ X hz (by rw [← hX])
  have HPM : Hid (∀ w' g', Bk w' g' 58 l → PfM w' g' k (.slice B M D) (.slice E Q G)) := fun w' g' h' => by rw [← hl] at h'; exact pf_mem hk.k h'
  have HK0 := Lib.hid hk
  have HW := Lib.hid hw1; have HB1 := Lib.hid hb1; have HL1 := Lib.hid kx; have HHO := Lib.hid hk.k; have HZ := Lib.hid hz
  have HZL : Hid (zs.length = M) := hk.z.length
  have HPL : Hid (ps.length = Q) := hk.p.length
  rw [hl, hX]
  clear hl hX hw1 hb1 kx hk hz
  have HLQ : Hid (L.length = Q) := by rw [← HLL.out]; show _ = _; rw [List.length_map, HPL.out]
  have HR1 : Hid (RpS w w1 z l (.slice none 0 0) []) := ⟨HL1.out, World.ownsRow_nil _ _ _ _, HB1.out⟩
  have hm := HK0.out.ml; have hq := HK0.out.ql
  have hu1 := u64_nat (k := M) (by omega); have hu2 := u64_nat (k := Q) (by omega)
  obtain ⟨x1, hx1⟩ : ∃ x, lstB k = x := ⟨_, rfl⟩
  obtain ⟨x2, hx2⟩ : ∃ x, numB M = x := ⟨_, rfl⟩
  obtain ⟨x3, hx3⟩ : ∃ x, numB Q = x := ⟨_, rfl⟩
  have L1 : Hid (x1.length ≤ 18) := by show _ ≤ 18; rw [← hx1]; have := lstB_len k; have := HHO.out.len; omega
  have L2 : Hid (x2.length ≤ 10) := by show _ ≤ 10; rw [← hx2]; exact numB_le _
  have L3 : Hid (x3.length ≤ 10) := by show _ ≤ 10; rw [← hx3]; exact numB_le _
  have N2 := Lib.hid (fun w' => rNum_any w' M (by show M < _; omega)); have N3 := Lib.hid (fun w' => rNum_any w' Q (by show Q < _; omega))
  have N1 : Hid (∀ w', Bk w' z 58 l → Calls Try.prog 60 #[.slice (some ⟨z, 0, none⟩) 8 8] w' (RetB w'.heap.size x1 w')) := fun w' hb => by
    rw [← hx1, lstB, HHO.out.len]
    exact rBytes_any w' (some ⟨z, 0, none⟩) 8 8 k (sl_rg HHO.out hb.lt (HPM.out _ _ hb).r0) (by omega)
  rw [hx2] at N2; rw [hx3] at N3
  have HFIN : Hid (pfB k zs L = (((x1 ++ x2) ++ nsB (zs.map Int.toNat)) ++ x3) ++ ksB L) := by
    show _ = _
    rw [pfB, pfHd, HZL.out, HLQ.out, hx1, hx2, hx3]
  clear hx1 hx2 hx3 HB1 HL1
  go_enter Try.func25, Try.ntmps25
  go_upto_region 1 with fail
  rw [HW.out, HZ.out]
  refine wp_region_held_drew (S := fun w' => Bk w' z 58 l) (by kernel_rfl) (Bk.drew HR1.out.lk) (fun hHeld => ?_)
  have hbd2 : Below w1.heap.size w1 w1.drew := below_draws w1 w1.heap.size 1
  obtain ⟨wa, hwa⟩ : ∃ wa, w1.drew = wa := ⟨_, rfl⟩
  rw [hwa] at hbd2 hHeld ⊢
  have HRa := Lib.hid (HR1.out.later hbd2)
  clear hwa hbd2 HR1
  refine wpAnyH_take (i := 0) (v := ?_) rfl (by kernel_rfl) (by kernel_rfl) (by kernel_rfl) (fun _ _ _ h => h) (Or.inl ⟨by rfl, ?_⟩) (by assumption) ?_
  rotate_left
  · intro w hSw
    (try dsimp only at hSw)
    go_simp
    try with_reducible rfl
  try simp only [Act.put, List.setIfInBounds_toArray, List.set_cons_zero, List.set_cons_succ, List.getElem_toArray, List.getElem_cons_zero, List.getElem_cons_succ]
  refine wpAnyH_take (i := 3) (v := ?_) rfl (by kernel_rfl) (by kernel_rfl) (by kernel_rfl) (fun _ _ _ h => h) (Or.inl ⟨by rfl, ?_⟩) (by assumption) ?_
  rotate_left
  · intro w hSw
    (try dsimp only at hSw)
    go_simp
    try with_reducible rfl
  try simp only [Act.put, List.setIfInBounds_toArray, List.set_cons_zero, List.set_cons_succ, List.getElem_toArray, List.getElem_cons_zero, List.getElem_cons_succ]
  refine wpAnyH_take (i := 1) (v := ?_) rfl (by kernel_rfl) (by kernel_rfl) (by kernel_rfl) (fun _ _ _ h => h) (Or.inl ⟨by rfl, ?_⟩) (by assumption) ?_
  rotate_left
  · intro w hSw
    (try dsimp only at hSw)
    go_simp
    try with_reducible rfl
  try simp only [Act.put, List.setIfInBounds_toArray, List.set_cons_zero, List.set_cons_succ, List.getElem_toArray, List.getElem_cons_zero, List.getElem_cons_succ]
  refine wpAnyH_take (i := 4) (v := ?_) rfl (by kernel_rfl) (by kernel_rfl) (by kernel_rfl) (fun _ _ _ h => h) (Or.inl ⟨by rfl, ?_⟩) (by assumption) ?_
  rotate_left
  · intro w hSw
    have hcell := (HPM.out _ _ hSw).c8
    clear hSw
    go_simp
    try with_reducible rfl
  try simp only [Act.put, List.setIfInBounds_toArray, List.set_cons_zero, List.set_cons_succ, List.getElem_toArray, List.getElem_cons_zero, List.getElem_cons_succ]
  refine wpAnyH_take (i := 5) (v := ?_) rfl (by kernel_rfl) (by kernel_rfl) (by kernel_rfl) (fun _ _ _ h => h) (Or.inl ⟨by rfl, ?_⟩) (by assumption) ?_
  rotate_left
  · intro w hSw
    (try dsimp only at hSw)
    go_simp
    try with_reducible rfl
  try simp only [Act.put, List.setIfInBounds_toArray, List.set_cons_zero, List.set_cons_succ, List.getElem_toArray, List.getElem_cons_zero, List.getElem_cons_succ]
  refine wpAnyH_take (i := 6) (v := ?_) rfl (by kernel_rfl) (by kernel_rfl) (by kernel_rfl) (fun _ _ _ h => h) (Or.inl ⟨by rfl, ?_⟩) (by assumption) ?_
  rotate_left
  · intro w hSw
    (try dsimp only at hSw)
    go_simp
    try with_reducible rfl
  try simp only [Act.put, List.setIfInBounds_toArray, List.set_cons_zero, List.set_cons_succ, List.getElem_toArray, List.getElem_cons_zero, List.getElem_cons_succ]
  refine wpAnyH_ready (rs := [2]) (by kernel_rfl) (by simp) ?_
  refine AllReadyH.cons rfl (fun K hK => ?_) AllReadyH.nil
  go_simp
  (go_at_call 60; refine (N1.out wa HRa.out.lk).mono ?_; rintro e wb ⟨v2, rfl, hown⟩; have HRb : Hid (RpS w wb z l v2 x1) := ⟨(HRa.out.later hown.2).lk, own_base hown.1 HRa.out.hb.size, (HRa.out.later hown.2).hb⟩; clear hown HRa)
  refine hK.out _ _ (HRb.out.lk) (fun hHeld => ?_)
  clear hK K
  try simp only [Act.put, List.setIfInBounds_toArray, List.set_cons_zero, List.set_cons_succ, List.getElem_toArray, List.getElem_cons_zero, List.getElem_cons_succ]
  obtain ⟨A2, c2, hv2⟩ := HRb.out.form
  subst hv2
  refine wpAnyH_ready (rs := [7]) (by kernel_rfl) (by simp) ?_
  refine AllReadyH.cons rfl (fun K hK => ?_) AllReadyH.nil
  go_simp
  (go_at_call 61; refine (N2.out wb).mono ?_; rintro e wc ⟨v3, rfl, hown⟩; obtain ⟨A3, c3, rfl⟩ := hown.form; have HRc := Lib.hid (HRb.out.later hown.2); have HPc := Lib.hid hown.1; clear hown HRb)
  refine hK.out _ _ (HRc.out.lk) (fun hHeld => ?_)
  clear hK K
  try simp only [Act.put, List.setIfInBounds_toArray, List.set_cons_zero, List.set_cons_succ, List.getElem_toArray, List.getElem_cons_zero, List.getElem_cons_succ]
  refine wpAnyH_ready (rs := [8]) (by kernel_rfl) (by simp) ?_
  refine AllReadyH.cons rfl (fun K hK => ?_) AllReadyH.nil
  rw [if_pos (by rfl)]
  obtain ⟨i0, hi, hi0, hi1, hi2⟩ := info_parts Try.infoU8
  refine wp_app _ (.tmp 8) (.tmp 13) 56 rfl w.heap.size 5 i0 (.int .u8 0) 1 1 Try.underlying56 hi hi0 hi1 hi2 rfl (by decide) _ _ _ rfl HRc.out.ro _ _ _ _ _ rfl (Sl.of_own HPc.out) (ints_one _ _) (by unfold maxLen; have := L1.out; have := L2.out; omega) (by have := L1.out; have := L2.out; omega) HRc.out.hb.size ?_
  intro v9 wd hown hg hat
  have HRd := Lib.hid (HRc.out.app hown hg)
  clear hown hg hat hi hi0 hi1 hi2 i0
  refine hK.out _ _ HRd.out.lk (fun hHeld => ?_)
  clear hK K
  try simp only [Act.put, List.setIfInBounds_toArray, List.set_cons_zero, List.set_cons_succ, List.getElem_toArray, List.getElem_cons_zero, List.getElem_cons_succ]
  clear HRc HPc
  refine wpAnyH_take (i := 9) (v := ?_) rfl (by kernel_rfl) (by kernel_rfl) (by kernel_rfl) (fun _ _ _ h => h) (Or.inl ⟨by rfl, ?_⟩) (by assumption) ?_
  rotate_left
  · intro w hSw
    (try dsimp only at hSw)
    go_simp
    try with_reducible rfl
  try simp only [Act.put, List.setIfInBounds_toArray, List.set_cons_zero, List.set_cons_succ, List.getElem_toArray, List.getElem_cons_zero, List.getElem_cons_succ]
  refine wpAnyH_done (by kernel_rfl) ?_ _
  clear hHeld
  obtain ⟨e1, he1⟩ : ∃ e, x1 ++ x2 = e := ⟨_, rfl⟩
  have E1 : Hid (e1.length ≤ 28) := by show _ ≤ 28; rw [← he1, List.length_append]; have := L1.out; have := L2.out; omega
  rw [he1] at HRd HFIN
  obtain ⟨A4, c4, hv4⟩ := HRd.out.form
  subst hv4
  clear he1 hu1
  go_wp2_with fail
  go_loopw [3, 4] (fun ov iv wr => ∃ (j : Nat) (e : List Int) (v : Value), j ≤ M ∧ iv = .int .i64 j ∧ v = ov ∧ Hid (e = e1 ++ nsB ((zs.map Int.toNat).take j)) ∧ Hid (RpS w wr z l v e)) (fun _ iv _ => M - (intOf iv).toNat)
  case atStart => exact ⟨0, e1, _, Nat.zero_le _, rfl, rfl, by show _ = _; simp [nsB], HRd⟩
  case round =>
    clear HRd
    obtain ⟨j, e, v, hj, rfl, hv, HE, HRr⟩ := hrel
    subst hv
    obtain ⟨A9, d9, h9⟩ := HRr.out.form
    subst h9
    have c8 := (HPM.out _ _ HRr.out.lk).c8
    have HEL9 : Hid (e.length ≤ 150) := by
      show _ ≤ 150
      have h1 := nsB_le ((zs.map Int.toNat).take j)
      have h2 : ((zs.map Int.toNat).take j).length ≤ 12 := by rw [List.length_take]; omega
      have h3 := E1.out
      rw [HE.out, List.length_append]; omega
    by_cases hlt : j < M
    · have hji : (j : Int) < M := by omega
      obtain ⟨b, o, y, rfl, hy, hbl, hcell⟩ := int_at (HK0.out.later HRr.out.hb).z hlt
      obtain ⟨hy0, hy1⟩ := pay_facts (HPAY.out y (List.mem_of_getElem? hy))
      obtain ⟨x, rfl⟩ : ∃ x : Nat, y = x := ⟨y.toNat, by omega⟩
      have hux := u64_nat (k := x) (by omega)
      obtain ⟨yb, hyb⟩ : ∃ q, numB x = q := ⟨_, rfl⟩
      have HYB : Hid (yb.length ≤ 10) := by show _ ≤ 10; rw [← hyb]; exact numB_le _
      have hnb := rNum_any wr x (by show x < _; omega)
      rw [hyb] at hnb
      have HNB := Lib.hid hnb
      have HEN : Hid (e ++ yb = e1 ++ nsB ((zs.map Int.toNat).take (j + 1))) := by
        show _ = _
        rw [nsB_snoc (x := x) (by rw [List.getElem?_map, hy]; rfl), HE.out, List.append_assoc, hyb]
      clear hbl hy hy0 hy1 hyb hnb
      go_wp2_with fail
      clear c8
      refine HNB.out.mono ?_
      rintro e9 w7 ⟨v7, rfl, hown⟩
      obtain ⟨A7, c7, rfl⟩ := hown.form
      have HR7 := Lib.hid (HRr.out.later hown.2); have HP7 := Lib.hid hown.1
      clear hown HRr HNB hux
      go_wp2_with (at_builtin; refine stop_here ?_)
      refine StopD.go ?_
      obtain ⟨i0, hi, hi0, hi1, hi2⟩ := info_parts Try.infoU8
      refine wpList_app _ rfl (.tmp 22) (.tmp 29) 56 rfl w.heap.size 5 i0 (.int .u8 0) 1 1 Try.underlying56 hi hi0 hi1 hi2 rfl (by decide) _ _ _ rfl HR7.out.ro _ _ _ _ _ rfl (Sl.of_own HP7.out) (ints_one _ _) (by unfold maxLen; have := HEL9.out; have := HYB.out; omega) (by have := HEL9.out; have := HYB.out; omega) HR7.out.hb.size ?_
      intro v9 w8 hown hg hat
      have HR8 := Lib.hid (HR7.out.app hown hg)
      clear hown hg hat hi hi0 hi1 hi2 i0
      clear HR7 HP7
      obtain ⟨en, hen⟩ : ∃ q, e ++ yb = q := ⟨_, rfl⟩
      rw [hen] at HR8 HEN
      clear hen
      go_wp2_with fail
      go_roundw
      case rel => exact ⟨j + 1, en, _, hlt, by go_num, rfl, HEN, HR8⟩
      case measure => simp [intOf] <;> omega
    · have hji : ¬ ((j : Int) < M) := by omega
      have he : e1 ++ nsB (zs.map Int.toNat) = e := by rw [HE.out, List.take_of_length_le (by rw [List.length_map, HZL.out]; omega)]
      rw [he] at HFIN
      clear HE he
      have c9 := (HPM.out _ _ HRr.out.lk).c9
      go_wp2_with fail
      clear c9 c8
      refine (N3.out wr).mono ?_
      rintro e9 w5 ⟨v5, rfl, hown⟩
      obtain ⟨A5, c5, rfl⟩ := hown.form
      have HR5 := Lib.hid (HRr.out.later hown.2); have HP5 := Lib.hid hown.1
      clear hown HRr hu2
      go_wp2_with (at_builtin; refine stop_here ?_)
      refine StopD.go ?_
      obtain ⟨i0, hi, hi0, hi1, hi2⟩ := info_parts Try.infoU8
      refine wpList_app _ rfl (.tmp 31) (.tmp 36) 56 rfl w.heap.size 5 i0 (.int .u8 0) 1 1 Try.underlying56 hi hi0 hi1 hi2 rfl (by decide) _ _ _ rfl HR5.out.ro _ _ _ _ _ rfl (Sl.of_own HP5.out) (ints_one _ _) (by unfold maxLen; have := HEL9.out; have := L3.out; omega) (by have := HEL9.out; have := L3.out; omega) HR5.out.hb.size ?_
      intro v9 w6 hown hg hat
      have HR6 := Lib.hid (HR5.out.app hown hg)
      clear hown hg hat hi hi0 hi1 hi2 i0
      clear HR5 HP5
      obtain ⟨e2, he2⟩ : ∃ q, e ++ x3 = q := ⟨_, rfl⟩
      have E2 : Hid (e2.length ≤ 160) := by show _ ≤ 160; rw [← he2, List.length_append]; have := HEL9.out; have := L3.out; omega
      rw [he2] at HR6 HFIN
      clear he2
      go_wp2_with fail
      go_loopw [3, 5] (fun ov iv wr => ∃ (j : Nat) (e : List Int) (v : Value), j ≤ Q ∧ iv = .int .i64 j ∧ v = ov ∧ Hid (e = e2 ++ ksB (L.take j)) ∧ Hid (RpS w wr z l v e)) (fun _ iv _ => Q - (intOf iv).toNat)
      case atStart => exact ⟨0, e2, _, Nat.zero_le _, rfl, rfl, by show _ = _; simp [ksB], HR6⟩
      case round =>
        clear HR6 hlt hji
        obtain ⟨j, e, v, hj, rfl, hv, HE, HRr⟩ := hrel
        subst hv
        obtain ⟨A9, d9, h9⟩ := HRr.out.form
        subst h9
        have c9 := (HPM.out _ _ HRr.out.lk).c9
        have HEL9 : Hid (e.length ≤ 70000) := by
          show _ ≤ 70000
          have h1 := ksB_le' (L.take j) (fun x hx => by
            have hx := List.mem_of_mem_take hx
            rw [← HLL.out] at hx
            obtain ⟨p, hp, rfl⟩ := List.mem_map.1 hx
            have := (HK0.out.po p hp).length; have := HK0.out.pn p hp; omega)
          have h2 : (L.take j).length ≤ 12 := by rw [List.length_take]; have := HK0.out.ql; omega
          have h3 := E2.out
          rw [HE.out, List.length_append]; omega
        by_cases hlt : j < Q
        · have hji : (j : Int) < Q := by omega
          obtain ⟨b, o, y, rfl, hy, hbl, hcell⟩ := pfc_at (HK0.out.later HRr.out.hb).p hlt
          have hym := List.mem_of_getElem? hy
          have hpn := HK0.out.pn y hym
          have HYL : Hid (y.bs.length = y.n) := (HK0.out.po y hym).length
          have HY : Hid (L[j]? = some y.bs) := by rw [← HLL.out]; show _ = _; rw [List.getElem?_map, hy]; rfl
          obtain ⟨yb, hyb⟩ : ∃ q, numB y.n ++ y.bs = q := ⟨_, rfl⟩
          have HYB : Hid (yb.length ≤ 5010) := by show _ ≤ 5010; rw [← hyb, List.length_append]; have := numB_le y.n; have := HYL.out; omega
          have hnb := rBytes_any wr y.A y.n y.c y.bs ((HK0.out.later HRr.out.hb).po y hym) (by omega)
          rw [hyb] at hnb
          have HNB := Lib.hid hnb
          have HEN : Hid (e ++ yb = e2 ++ ksB (L.take (j + 1))) := by
            show _ = _
            rw [ksB_snoc HY.out, HE.out, lstB, HYL.out, List.append_assoc, hyb]
          clear hbl hy hym hyb hnb hpn
          go_wp2_with fail
          clear c9
          refine HNB.out.mono ?_
          rintro e9 w7 ⟨v7, rfl, hown⟩
          obtain ⟨A7, c7, rfl⟩ := hown.form
          have HR7 := Lib.hid (HRr.out.later hown.2); have HP7 := Lib.hid hown.1
          clear hown HRr HNB
          go_wp2_with (at_builtin; refine stop_here ?_)
          refine StopD.go ?_
          obtain ⟨i0, hi, hi0, hi1, hi2⟩ := info_parts Try.infoU8
          refine wpList_app _ rfl (.tmp 45) (.tmp 51) 56 rfl w.heap.size 5 i0 (.int .u8 0) 1 1 Try.underlying56 hi hi0 hi1 hi2 rfl (by decide) _ _ _ rfl HR7.out.ro _ _ _ _ _ rfl (Sl.of_own HP7.out) (ints_one _ _) (by unfold maxLen; have := HEL9.out; have := HYB.out; omega) (by have := HEL9.out; have := HYB.out; omega) HR7.out.hb.size ?_
          intro v9 w8 hown hg hat
          have HR8 := Lib.hid (HR7.out.app hown hg)
          clear hown hg hat hi hi0 hi1 hi2 i0
          clear HR7 HP7
          obtain ⟨en, hen⟩ : ∃ q, e ++ yb = q := ⟨_, rfl⟩
          rw [hen] at HR8 HEN
          clear hen
          go_wp2_with fail
          go_roundw
          case rel => exact ⟨j + 1, en, _, hlt, by go_num, rfl, HEN, HR8⟩
          case measure => simp [intOf] <;> omega
        · have hji : ¬ ((j : Int) < Q) := by omega
          have he : e2 ++ ksB L = e := by rw [HE.out, List.take_of_length_le (by rw [HLQ.out]; omega)]
          rw [he] at HFIN
          clear HE he
          go_wp2_with fail
          go_ret
          refine ⟨.slice A9 e.length d9, rfl, ?_, HRr.out.hb⟩
          rw [HFIN.out]; exact HRr.out.ro
end Go.Proofs.Ytbclfjdamklbpaa

/-! Two proofs that are the same: the document's. -/
namespace Go.Proofs.Ytbclfjdamklbpaa
set_option linter.unusedSimpArgs false
set_option linter.unusedVariables false
open Go.RowKit Go.Maps

set_option maxRecDepth 20000 in
set_option maxHeartbeats 4000000 in
theorem psame_any (w : World) (k zs : List Int) (M Q : Nat) (B B2 E E2 : Option Addr) (D D2 G G2 : Nat) (ps qs : List Pc) (hk : PfK w k B M zs E Q ps) (hk' : PfK w k B2 M zs E2 Q qs) (hbs : ps.map Pc.bs = qs.map Pc.bs) :
    Calls Try.prog 26 #[.agg (pfC k (.slice B M D) (.slice E Q G)).toArray, .agg (pfC k (.slice B2 M D2) (.slice E2 Q G2)).toArray] w fun e w' => e = .returned (.bool true) ∧ Below w.heap.size w w' := by
  have hkr := rdg_eq_run k k hk.k hk.k
  rw [show eqL k k = true by simp [eqL]] at hkr
  have HRS : Hid ((Try.prog.info? 22).map (·.size) = some (dl k).length) := by show _ = _; rw [dl_len, hk.k.len]; kernel_rfl
  have HBS := Lib.hid hbs
  obtain ⟨l, hl⟩ : ∃ x, pfC k (.slice B M D) (.slice E Q G) = x := ⟨_, rfl⟩
  obtain ⟨X, hX⟩ : ∃ X, l.toArray = X := ⟨_, rfl⟩
  obtain ⟨l2, hl2⟩ : ∃ x, pfC k (.slice B2 M D2) (.slice E2 Q G2) = x := ⟨_, rfl⟩
  obtain ⟨Y, hY⟩ : ∃ X, l2.toArray = X := ⟨_, rfl⟩
  obtain ⟨z, hz⟩ : ∃ z, w.heap.size = z := ⟨_, rfl⟩
  obtain ⟨w1, hw1⟩ : ∃ w1, (w.alloc (.cells X 58)).alloc (.cells Y 58) = w1 := ⟨_, rfl⟩
  have hb1 : Below w.heap.size w w1 := hw1 ▸ (below_new w _).alloc (by simp) _
  have kx : Bk w1 z 58 l := hw1 ▸ (Bk.at_ w _ X hz (by rw [← hX])).alloc _
  have ky : Bk w1 (z + 1) 58 l2 := hw1 ▸ Bk.at_ _ _ Y (by simp [hz]) (by rw [← hY])
  have hh : DgOk k := hk.k
  have HLM : Hid (∀ w' g', Bk w' g' 58 l → PfM w' g' k (.slice B M D) (.slice E Q G)) := fun w' g' h' => by rw [← hl] at h'; exact pf_mem hh h'
  have HLM2 : Hid (∀ w' g', Bk w' g' 58 l2 → PfM w' g' k (.slice B2 M D2) (.slice E2 Q G2)) := fun w' g' h' => by rw [← hl2] at h'; exact pf_mem hh h'
  have HW := Lib.hid hw1; have HB1 := Lib.hid hb1; have HX1 := Lib.hid kx; have HY1 := Lib.hid ky; have HZ := Lib.hid hz; have HK := Lib.hid hk; have HK2 := Lib.hid hk'
  rw [hl, hX, hl2, hY]
  clear hl hX hl2 hY hw1 hb1 kx ky hh hz hk hk' hbs
  obtain ⟨r1, c8, c9⟩ := HLM.out _ _ HX1.out
  obtain ⟨q1, d8, d9⟩ := HLM2.out _ _ HY1.out
  have HR1 := Lib.hid r1; have HQ1 := Lib.hid q1
  clear r1 q1
  go_enter Try.func26, Try.ntmps26
  go_upto_region 1 with fail
  rw [HW.out, HZ.out]
  go_wp2_with (first
    | ((with_reducible refine wpList_load_midG ?_ 22 _ rfl z 0 rfl (dl k) _ HR1.out Try.underlying22 rfl HRS.out ?_); rfl)
    | ((with_reducible refine wpList_load_midG ?_ 22 _ rfl (z + 1) 0 rfl (dl k) _ HQ1.out Try.underlying22 rfl HRS.out ?_); rfl))
  clear hkr c8 c9 d8 d9
  have hml := HK.out.ml
  have hql := HK.out.ql
  go_loopw [5] (fun is wr => ∃ (i : Nat), i ≤ M ∧ is = .int .i64 i ∧ Hid (Bk wr z 58 l) ∧ Hid (Bk wr (z + 1) 58 l2) ∧ Hid (Below w.heap.size w wr)) (fun is _ => M - (intOf is).toNat)
  case atStart => exact ⟨0, Nat.zero_le _, rfl, HX1, HY1, HB1⟩
  case round =>
    clear HX1 HY1 HB1
    obtain ⟨i, hi, rfl, HX, HY, HB⟩ := hrel
    have c8 := (HLM.out _ _ HX.out).c8
    by_cases hlt : i < M
    · have hi1 : (i : Int) < M := by omega
      have hi0 : (0 : Int) ≤ i := by omega
      obtain ⟨b, o, y, rfl, hy, hbl, hc1⟩ := int_at (HK.out.later HB.out).z hlt
      obtain ⟨b', o', y', rfl, hy', hbl', hc2⟩ := int_at (HK2.out.later HB.out).z hlt
      rw [hy] at hy'
      injection hy' with hy'
      subst hy'
      have HC1 := Lib.hid hc1; have HC2 := Lib.hid hc2
      have hyy : (y != y) = false := by simp
      clear hc1 hc2 hy hbl hbl'
      go_upto_region 6 with fail
      clear c8
      have hbd : Below wr.heap.size wr wr.drew := below_draws wr wr.heap.size 1
      refine wp_region_held_drew (S := fun w' => (w'.cell? ⟨b, o + i, none⟩ = some (.int .i64 y) ∧ w'.cell? ⟨b', o' + i, none⟩ = some (.int .i64 y)) ∧ Bk w' z 58 l ∧ Bk w' (z + 1) 58 l2) (by kernel_rfl) ⟨⟨HC1.out, HC2.out⟩, HX.out.later hbd, HY.out.later hbd⟩ (fun hHeld => ?_)
      have HBd := Lib.hid (below_then HB.out hbd); have HXd := Lib.hid (HX.out.later hbd); have HYd := Lib.hid (HY.out.later hbd)
      clear hbd
      refine wpAnyH_take (i := 0) (v := ?_) rfl (by kernel_rfl) (by kernel_rfl) (by kernel_rfl) (fun _ _ _ h => h) (Or.inl ⟨by rfl, ?_⟩) (by assumption) ?_
      rotate_left
      · intro w hSw
        (try dsimp only at hSw)
        go_simp
        try with_reducible rfl
      try simp only [Act.put, List.setIfInBounds_toArray, List.set_cons_zero, List.set_cons_succ, List.getElem_toArray, List.getElem_cons_zero, List.getElem_cons_succ]
      refine wpAnyH_take (i := 2) (v := ?_) rfl (by kernel_rfl) (by kernel_rfl) (by kernel_rfl) (fun _ _ _ h => h) (Or.inl ⟨by rfl, ?_⟩) (by assumption) ?_
      rotate_left
      · intro w hSw
        (try dsimp only at hSw)
        go_simp
        try with_reducible rfl
      try simp only [Act.put, List.setIfInBounds_toArray, List.set_cons_zero, List.set_cons_succ, List.getElem_toArray, List.getElem_cons_zero, List.getElem_cons_succ]
      refine wpAnyH_take (i := 5) (v := ?_) rfl (by kernel_rfl) (by kernel_rfl) (by kernel_rfl) (fun _ _ _ h => h) (Or.inl ⟨by rfl, ?_⟩) (by assumption) ?_
      rotate_left
      · intro w hSw
        (try dsimp only at hSw)
        go_simp
        try with_reducible rfl
      try simp only [Act.put, List.setIfInBounds_toArray, List.set_cons_zero, List.set_cons_succ, List.getElem_toArray, List.getElem_cons_zero, List.getElem_cons_succ]
      refine wpAnyH_take (i := 7) (v := ?_) rfl (by kernel_rfl) (by kernel_rfl) (by kernel_rfl) (fun _ _ _ h => h) (Or.inl ⟨by rfl, ?_⟩) (by assumption) ?_
      rotate_left
      · intro w hSw
        (try dsimp only at hSw)
        go_simp
        try with_reducible rfl
      try simp only [Act.put, List.setIfInBounds_toArray, List.set_cons_zero, List.set_cons_succ, List.getElem_toArray, List.getElem_cons_zero, List.getElem_cons_succ]
      refine wpAnyH_take (i := 1) (v := ?_) rfl (by kernel_rfl) (by kernel_rfl) (by kernel_rfl) (fun _ _ _ h => h) (Or.inl ⟨by rfl, ?_⟩) (by assumption) ?_
      rotate_left
      · intro w hSw
        have hcell := (HLM.out _ _ hSw.2.1).c8
        clear hSw
        go_simp
        try with_reducible rfl
      try simp only [Act.put, List.setIfInBounds_toArray, List.set_cons_zero, List.set_cons_succ, List.getElem_toArray, List.getElem_cons_zero, List.getElem_cons_succ]
      refine wpAnyH_take (i := 6) (v := ?_) rfl (by kernel_rfl) (by kernel_rfl) (by kernel_rfl) (fun _ _ _ h => h) (Or.inl ⟨by rfl, ?_⟩) (by assumption) ?_
      rotate_left
      · intro w hSw
        have hcell := (HLM2.out _ _ hSw.2.2).c8
        clear hSw
        go_simp
        try with_reducible rfl
      try simp only [Act.put, List.setIfInBounds_toArray, List.set_cons_zero, List.set_cons_succ, List.getElem_toArray, List.getElem_cons_zero, List.getElem_cons_succ]
      refine wpAnyH_take (i := 3) (v := ?_) rfl (by kernel_rfl) (by kernel_rfl) (by kernel_rfl) (fun _ _ _ h => h) (Or.inl ⟨by rfl, ?_⟩) (by assumption) ?_
      rotate_left
      · intro w hSw
        (try dsimp only at hSw)
        go_simp
        try with_reducible rfl
      try simp only [Act.put, List.setIfInBounds_toArray, List.set_cons_zero, List.set_cons_succ, List.getElem_toArray, List.getElem_cons_zero, List.getElem_cons_succ]
      refine wpAnyH_take (i := 8) (v := ?_) rfl (by kernel_rfl) (by kernel_rfl) (by kernel_rfl) (fun _ _ _ h => h) (Or.inl ⟨by rfl, ?_⟩) (by assumption) ?_
      rotate_left
      · intro w hSw
        (try dsimp only at hSw)
        go_simp
        try with_reducible rfl
      try simp only [Act.put, List.setIfInBounds_toArray, List.set_cons_zero, List.set_cons_succ, List.getElem_toArray, List.getElem_cons_zero, List.getElem_cons_succ]
      refine wpAnyH_take (i := 4) (v := ?_) rfl (by kernel_rfl) (by kernel_rfl) (by kernel_rfl) (fun _ _ _ h => h) (Or.inl ⟨by rfl, ?_⟩) (by assumption) ?_
      rotate_left
      · intro w hSw
        have hcell := hSw.1.1
        clear hSw
        go_simp
        try with_reducible rfl
      try simp only [Act.put, List.setIfInBounds_toArray, List.set_cons_zero, List.set_cons_succ, List.getElem_toArray, List.getElem_cons_zero, List.getElem_cons_succ]
      refine wpAnyH_take (i := 9) (v := ?_) rfl (by kernel_rfl) (by kernel_rfl) (by kernel_rfl) (fun _ _ _ h => h) (Or.inl ⟨by rfl, ?_⟩) (by assumption) ?_
      rotate_left
      · intro w hSw
        have hcell := hSw.1.2
        clear hSw
        go_simp
        try with_reducible rfl
      try simp only [Act.put, List.setIfInBounds_toArray, List.set_cons_zero, List.set_cons_succ, List.getElem_toArray, List.getElem_cons_zero, List.getElem_cons_succ]
      refine wpAnyH_take (i := 10) (v := ?_) rfl (by kernel_rfl) (by kernel_rfl) (by kernel_rfl) (fun _ _ _ h => h) (Or.inl ⟨by rfl, ?_⟩) (by assumption) ?_
      rotate_left
      · intro w hSw
        (try dsimp only at hSw)
        go_simp
        try with_reducible rfl
      try simp only [Act.put, List.setIfInBounds_toArray, List.set_cons_zero, List.set_cons_succ, List.getElem_toArray, List.getElem_cons_zero, List.getElem_cons_succ]
      refine wpAnyH_done (by kernel_rfl) ?_ _
      clear hHeld hyy
      go_wp2_with fail
      go_roundw
      case rel => exact ⟨i + 1, hlt, by go_num, HXd, HYd, HBd⟩
      case measure => simp [intOf] <;> omega
    · have hi1 : ¬ ((i : Int) < M) := by omega
      obtain rfl : i = M := by omega
      go_wp2_with fail
      clear c8 hlt hi1
      go_loopw [6] (fun is wr => ∃ (i : Nat), i ≤ Q ∧ is = .int .i64 i ∧ Hid (Bk wr z 58 l) ∧ Hid (Bk wr (z + 1) 58 l2) ∧ Hid (Below w.heap.size w wr)) (fun is _ => Q - (intOf is).toNat)
      case atStart => exact ⟨0, Nat.zero_le _, rfl, HX, HY, HB⟩
      case round =>
        clear HX HY HB
        obtain ⟨j, hj, rfl, HX, HY, HB⟩ := hrel
        have c9 := (HLM.out _ _ HX.out).c9
        by_cases hlt : j < Q
        · have hj1 : (j : Int) < Q := by omega
          have hj0 : (0 : Int) ≤ j := by omega
          obtain ⟨b, o, p, rfl, hp, hbl, hc1⟩ := pfc_at (HK.out.later HB.out).p hlt
          obtain ⟨b', o', q, rfl, hq, hbl', hc2⟩ := pfc_at (HK2.out.later HB.out).p hlt
          have hpq : p.bs = q.bs := by
            have h1 : (ps.map Pc.bs)[j]? = some p.bs := by rw [List.getElem?_map, hp]; rfl
            have h2 : (qs.map Pc.bs)[j]? = some q.bs := by rw [List.getElem?_map, hq]; rfl
            rw [HBS.out, h2] at h1
            injection h1 with h1
            exact h1.symm
          have hbd : Below wr.heap.size wr wr.drew := below_draws wr wr.heap.size 1
          have HBd := Lib.hid (below_then HB.out hbd); have HXd := Lib.hid (HX.out.later hbd); have HYd := Lib.hid (HY.out.later hbd)
          have hs1 := (HK.out.later HBd.out).po p (List.mem_of_getElem? hp)
          have hs2 := (HK2.out.later HBd.out).po q (List.mem_of_getElem? hq)
          rw [← hpq] at hs2
          obtain ⟨xs, hxs⟩ : ∃ x, p.bs = x := ⟨_, rfl⟩
          rw [hxs] at hs1 hs2
          have HS1 := Lib.hid hs1; have HS2 := Lib.hid hs2
          have HC1 := Lib.hid hc1; have HC2 := Lib.hid hc2
          obtain ⟨s, hs⟩ : ∃ s, strOf xs = s := ⟨_, rfl⟩
          have HCV1 : Hid (∀ w' : World, Sl w' w'.heap.size 1 p.A p.n (xs.map (.int .u8)) → (convert 56 9 (.slice p.A p.n p.c)).run Try.prog w' = .ok (.string s) w') := fun w' h => by rw [← hs]; exact conv_any w' _ _ _ _ _ h
          have HCV2 : Hid (∀ w' : World, Sl w' w'.heap.size 1 q.A q.n (xs.map (.int .u8)) → (convert 56 9 (.slice q.A q.n q.c)).run Try.prog w' = .ok (.string s) w') := fun w' h => by rw [← hs]; exact conv_any w' _ _ _ _ _ h
          clear hc1 hc2 hp hq hbl hbl' hpq hs1 hs2 hxs hs hbd
          go_upto_region 11 with fail
          clear c9
          refine wp_region_held_drew (S := fun w' => (w'.cell? ⟨b, o + j, none⟩ = some (.slice p.A p.n p.c) ∧ w'.cell? ⟨b', o' + j, none⟩ = some (.slice q.A q.n q.c)) ∧ (Bk w' z 58 l ∧ Bk w' (z + 1) 58 l2) ∧ Sl w' w'.heap.size 1 p.A p.n (xs.map (.int .u8)) ∧ Sl w' w'.heap.size 1 q.A q.n (xs.map (.int .u8))) (by kernel_rfl) ⟨⟨HC1.out, HC2.out⟩, ⟨HXd.out, HYd.out⟩, HS1.out, HS2.out⟩ (fun hHeld => ?_)
          refine wpAnyH_take (i := 0) (v := ?_) rfl (by kernel_rfl) (by kernel_rfl) (by kernel_rfl) (fun _ _ _ h => h) (Or.inl ⟨by rfl, ?_⟩) (by assumption) ?_
          rotate_left
          · intro w hSw
            (try dsimp only at hSw)
            go_simp
            try with_reducible rfl
          try simp only [Act.put, List.setIfInBounds_toArray, List.set_cons_zero, List.set_cons_succ, List.getElem_toArray, List.getElem_cons_zero, List.getElem_cons_succ]
          refine wpAnyH_take (i := 2) (v := ?_) rfl (by kernel_rfl) (by kernel_rfl) (by kernel_rfl) (fun _ _ _ h => h) (Or.inl ⟨by rfl, ?_⟩) (by assumption) ?_
          rotate_left
          · intro w hSw
            (try dsimp only at hSw)
            go_simp
            try with_reducible rfl
          try simp only [Act.put, List.setIfInBounds_toArray, List.set_cons_zero, List.set_cons_succ, List.getElem_toArray, List.getElem_cons_zero, List.getElem_cons_succ]
          refine wpAnyH_take (i := 6) (v := ?_) rfl (by kernel_rfl) (by kernel_rfl) (by kernel_rfl) (fun _ _ _ h => h) (Or.inl ⟨by rfl, ?_⟩) (by assumption) ?_
          rotate_left
          · intro w hSw
            (try dsimp only at hSw)
            go_simp
            try with_reducible rfl
          try simp only [Act.put, List.setIfInBounds_toArray, List.set_cons_zero, List.set_cons_succ, List.getElem_toArray, List.getElem_cons_zero, List.getElem_cons_succ]
          refine wpAnyH_take (i := 8) (v := ?_) rfl (by kernel_rfl) (by kernel_rfl) (by kernel_rfl) (fun _ _ _ h => h) (Or.inl ⟨by rfl, ?_⟩) (by assumption) ?_
          rotate_left
          · intro w hSw
            (try dsimp only at hSw)
            go_simp
            try with_reducible rfl
          try simp only [Act.put, List.setIfInBounds_toArray, List.set_cons_zero, List.set_cons_succ, List.getElem_toArray, List.getElem_cons_zero, List.getElem_cons_succ]
          refine wpAnyH_take (i := 1) (v := ?_) rfl (by kernel_rfl) (by kernel_rfl) (by kernel_rfl) (fun _ _ _ h => h) (Or.inl ⟨by rfl, ?_⟩) (by assumption) ?_
          rotate_left
          · intro w hSw
            have hcell := (HLM.out _ _ hSw.2.1.1).c9
            clear hSw
            go_simp
            try with_reducible rfl
          try simp only [Act.put, List.setIfInBounds_toArray, List.set_cons_zero, List.set_cons_succ, List.getElem_toArray, List.getElem_cons_zero, List.getElem_cons_succ]
          refine wpAnyH_take (i := 7) (v := ?_) rfl (by kernel_rfl) (by kernel_rfl) (by kernel_rfl) (fun _ _ _ h => h) (Or.inl ⟨by rfl, ?_⟩) (by assumption) ?_
          rotate_left
          · intro w hSw
            have hcell := (HLM2.out _ _ hSw.2.1.2).c9
            clear hSw
            go_simp
            try with_reducible rfl
          try simp only [Act.put, List.setIfInBounds_toArray, List.set_cons_zero, List.set_cons_succ, List.getElem_toArray, List.getElem_cons_zero, List.getElem_cons_succ]
          refine wpAnyH_take (i := 3) (v := ?_) rfl (by kernel_rfl) (by kernel_rfl) (by kernel_rfl) (fun _ _ _ h => h) (Or.inl ⟨by rfl, ?_⟩) (by assumption) ?_
          rotate_left
          · intro w hSw
            (try dsimp only at hSw)
            go_simp
            try with_reducible rfl
          try simp only [Act.put, List.setIfInBounds_toArray, List.set_cons_zero, List.set_cons_succ, List.getElem_toArray, List.getElem_cons_zero, List.getElem_cons_succ]
          refine wpAnyH_take (i := 9) (v := ?_) rfl (by kernel_rfl) (by kernel_rfl) (by kernel_rfl) (fun _ _ _ h => h) (Or.inl ⟨by rfl, ?_⟩) (by assumption) ?_
          rotate_left
          · intro w hSw
            (try dsimp only at hSw)
            go_simp
            try with_reducible rfl
          try simp only [Act.put, List.setIfInBounds_toArray, List.set_cons_zero, List.set_cons_succ, List.getElem_toArray, List.getElem_cons_zero, List.getElem_cons_succ]
          refine wpAnyH_take (i := 4) (v := ?_) rfl (by kernel_rfl) (by kernel_rfl) (by kernel_rfl) (fun _ _ _ h => h) (Or.inl ⟨by rfl, ?_⟩) (by assumption) ?_
          rotate_left
          · intro w hSw
            have hcell := hSw.1.1
            clear hSw
            go_simp
            try with_reducible rfl
          try simp only [Act.put, List.setIfInBounds_toArray, List.set_cons_zero, List.set_cons_succ, List.getElem_toArray, List.getElem_cons_zero, List.getElem_cons_succ]
          refine wpAnyH_take (i := 10) (v := ?_) rfl (by kernel_rfl) (by kernel_rfl) (by kernel_rfl) (fun _ _ _ h => h) (Or.inl ⟨by rfl, ?_⟩) (by assumption) ?_
          rotate_left
          · intro w hSw
            have hcell := hSw.1.2
            clear hSw
            go_simp
            try with_reducible rfl
          try simp only [Act.put, List.setIfInBounds_toArray, List.set_cons_zero, List.set_cons_succ, List.getElem_toArray, List.getElem_cons_zero, List.getElem_cons_succ]
          refine wpAnyH_take (i := 5) (v := ?_) rfl (by kernel_rfl) (by kernel_rfl) (by kernel_rfl) (fun _ _ _ h => h) (Or.inl ⟨by rfl, ?_⟩) (by assumption) ?_
          rotate_left
          · intro w hSw
            have hcell := HCV1.out _ hSw.2.2.1
            clear hSw
            go_simp
            try with_reducible rfl
          try simp only [Act.put, List.setIfInBounds_toArray, List.set_cons_zero, List.set_cons_succ, List.getElem_toArray, List.getElem_cons_zero, List.getElem_cons_succ]
          refine wpAnyH_take (i := 11) (v := ?_) rfl (by kernel_rfl) (by kernel_rfl) (by kernel_rfl) (fun _ _ _ h => h) (Or.inl ⟨by rfl, ?_⟩) (by assumption) ?_
          rotate_left
          · intro w hSw
            have hcell := HCV2.out _ hSw.2.2.2
            clear hSw
            go_simp
            try with_reducible rfl
          try simp only [Act.put, List.setIfInBounds_toArray, List.set_cons_zero, List.set_cons_succ, List.getElem_toArray, List.getElem_cons_zero, List.getElem_cons_succ]
          refine wpAnyH_take (i := 12) (v := ?_) rfl (by kernel_rfl) (by kernel_rfl) (by kernel_rfl) (fun _ _ _ h => h) (Or.inl ⟨by rfl, ?_⟩) (by assumption) ?_
          rotate_left
          · intro w hSw
            (try dsimp only at hSw)
            go_simp
            try with_reducible rfl
          try simp only [Act.put, List.setIfInBounds_toArray, List.set_cons_zero, List.set_cons_succ, List.getElem_toArray, List.getElem_cons_zero, List.getElem_cons_succ]
          refine wpAnyH_done (by kernel_rfl) ?_ _
          clear hHeld
          go_wp2_with fail
          go_roundw
          case rel => exact ⟨j + 1, hlt, by go_num, HXd, HYd, HBd⟩
          case measure => simp [intOf] <;> omega
        · have hj1 : ¬ ((j : Int) < Q) := by omega
          obtain rfl : j = Q := by omega
          go_wp2_with fail
          go_ret
          exact ⟨rfl, HB.out⟩
end Go.Proofs.Ytbclfjdamklbpaa
