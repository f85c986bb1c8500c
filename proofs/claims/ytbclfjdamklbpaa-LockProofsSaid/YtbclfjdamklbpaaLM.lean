/- The bytes of a lock. -/
import Derived.Test.YtbclfjdamklbpaaLE
namespace Go.Proofs.Ytbclfjdamklbpaa
set_option linter.unusedSimpArgs false
set_option linter.unusedVariables false
open Go.RowKit Go.Maps

def ksB (ks : List (List Int)) : List Int := ks.flatMap lstB
theorem ksB_snoc {L : List (List Int)} {k : Nat} {x : List Int} (h : L[k]? = some x) : ksB (L.take (k + 1)) = ksB (L.take k) ++ lstB x := by rw [take_snoc h]; simp [ksB]
theorem ksB_le : ∀ (L : List (List Int)), DsOk L → (ksB L).length ≤ 18 * L.length
  | [], _ => by simp [ksB]
  | x :: L, h => by
    have := ksB_le L (fun y hy => h y (by simp [hy]))
    have h1 := lstB_len x
    have h2 := (h x (by simp)).len
    simp only [ksB, List.flatMap_cons, List.length_append, List.length_cons] at this ⊢
    omega
theorem ksB_ok {L : List (List Int)} (h : DsOk L) : ByOk (ksB L) := fun b hb => by
  obtain ⟨x, hx, hb⟩ := List.mem_flatMap.1 hb
  exact lstB_ok (h x hx).byt (by rw [(h x hx).len]; omega) b hb
theorem DsOk.take {L : List (List Int)} (h : DsOk L) (k : Nat) : DsOk (L.take k) := fun x hx => h x (List.mem_of_mem_take hx)
def lkHd (k : Nat) (h : List Int) (n : Nat) : List Int := numB k ++ (lstB h ++ numB n)
def nsB (ns : List Nat) : List Int := ns.flatMap numB
def lkB (k : Nat) (h : List Int) (ks : List (List Int)) (s c u : Nat) : List Int := (lkHd k h ks.length ++ ksB ks) ++ nsB [s, c, u]
theorem nsB_snoc {L : List Nat} {k : Nat} {x : Nat} (h : L[k]? = some x) : nsB (L.take (k + 1)) = nsB (L.take k) ++ numB x := by rw [take_snoc h]; simp [nsB]
theorem lkHd_le {k n : Nat} {h : List Int} (hh : DgOk h) : (lkHd k h n).length ≤ 40 := by
  have h1 := lstB_len h; have h2 := numB_le k; have h3 := numB_le n
  simp only [lkHd, List.length_append]; have := hh.len; omega
theorem nsB_le : ∀ ns : List Nat, (nsB ns).length ≤ 10 * ns.length
  | [] => by simp [nsB]
  | x :: ns => by
    have := nsB_le ns
    have h1 := numB_le x
    simp only [nsB, List.flatMap_cons, List.length_append, List.length_cons] at this ⊢
    omega
theorem lkHd_ok {k n : Nat} {h : List Int} (hh : DgOk h) (hk : k < 18446744073709551616) (hn : n < 18446744073709551616) : ByOk (lkHd k h n) := byOk_app (numB_ok hk) (byOk_app (lstB_ok hh.byt (by rw [hh.len]; omega)) (numB_ok hn))
theorem nsB_ok {ns : List Nat} (h : ∀ n ∈ ns, n < 18446744073709551616) : ByOk (nsB ns) := fun b hb => by
  obtain ⟨x, hx, hb⟩ := List.mem_flatMap.1 hb
  exact numB_ok (h x hx) b hb
theorem u64_nat {k : Nat} (h : k < 9223372036854775808) : IntKind.u64.wrap (k : Int) = k := by rw [IntKind.wrap_u64]; omega
theorem build_i3 (a b c : Nat) (w : World) : (Instr.build 134 #[(0, .int .i64 a), (1, .int .i64 b), (2, .int .i64 c)]).run Try.prog w = .ok (.agg #[.int .i64 a, .int .i64 b, .int .i64 c]) w := by kernel_rfl
theorem index_i3 (a b c : Nat) (i : Nat) (x : Nat) (hx : [a, b, c][i]? = some x) (w : World) : (Instr.index 134 (.agg #[.int .i64 a, .int .i64 b, .int .i64 c]) (.int .i64 i)).run Try.prog w = .ok (.int .i64 x) w :=
  run_index_row 134 3 3 #[.int .i64 a, .int .i64 b, .int .i64 c] .i64 i (.int .i64 x) Try.underlying134 (by kernel_rfl) (by by_cases h : i < 3; exact h; rw [List.getElem?_eq_none (by simp; omega)] at hx; cases hx) (by
    match i, hx with
    | 0, hx => injection hx with hx; subst hx; rfl
    | 1, hx => injection hx with hx; subst hx; rfl
    | 2, hx => injection hx with hx; subst hx; rfl
    | i + 3, hx => simp at hx) (fun w => by kernel_rfl) w
set_option maxRecDepth 20000 in
set_option maxHeartbeats 4000000 in
theorem lbytes_any (w : World) (k s c u : Nat) (h : List Int) (ks : List (List Int)) (A : Option Addr) (N C : Nat) (hk : LkK w ⟨k, h, ks, s, c, u⟩ A N) (b1 : k < 4611686018427387904) (b2 : s < 4611686018427387904) (b3 : c < 4611686018427387904) (b4 : u < 4611686018427387904) :
    Calls Try.prog 44 #[.agg (lkC ⟨k, h, ks, s, c, u⟩ (.slice A N C)).toArray] w (RetB w.heap.size (lkB k h ks s c u) w) := by
  have hh : DgOk h := hk.h
  have HK0 := Lib.hid hk
  have HKL : Hid (ks.length = N) := hk.k.dgs hk.ko
  have HKO : Hid (DsOk ks) := hk.ko
  obtain ⟨l, hl⟩ : ∃ x, lkC ⟨k, h, ks, s, c, u⟩ (.slice A N C) = x := ⟨_, rfl⟩
  obtain ⟨X, hX⟩ : ∃ X, l.toArray = X := ⟨_, rfl⟩
  obtain ⟨z, hz⟩ : ∃ z, w.heap.size = z := ⟨_, rfl⟩
  obtain ⟨w1, hw1⟩ : ∃ w1, w.alloc (.cells X 26) = w1 := ⟨_, rfl⟩
  have hb1 : Below w.heap.size w w1 := hw1 ▸ below_new w _
  have kx : Bk w1 z 26 l := hw1 ▸ Bk.at_ w _ X hz (by rw [← hX])
  have HLM : Hid (∀ w' g', Bk w' g' 26 l → LkM w' g' ⟨k, h, ks, s, c, u⟩ (.slice A N C)) := fun w' g' h' => by rw [← hl] at h'; exact lk_mem hh h'
  have HW := Lib.hid hw1; have HB1 := Lib.hid hb1; have HL1 := Lib.hid kx; have HHO := Lib.hid hh; have HZ := Lib.hid hz
  have hn1 : N ≤ 1000 := hk.n
  have HBD : Hid (k < 4611686018427387904 ∧ s < 4611686018427387904 ∧ c < 4611686018427387904 ∧ u < 4611686018427387904 ∧ N ≤ 1000) := ⟨b1, b2, b3, b4, hn1⟩
  rw [hl, hX]
  clear hl hX hw1 hb1 kx hh hk hz b1 b2 b3 b4
  have hbd := HBD.out
  have u1 := u64_nat (k := k) (by omega); have u2 := u64_nat (k := N) (by omega)
  go_enter Try.func44, Try.ntmps44
  go_upto_region 1 with fail
  rw [HW.out, HZ.out]
  have c0 := (HLM.out _ _ HL1.out).c0
  go_wp2_with fail
  clear c0
  refine (putNum_any w1 none 0 0 [] Sl.nil k (by show k < _; omega) (by omega)).mono ?_
  rintro e2 w2 ⟨v2, rfl, hown⟩
  have hown : OwnB w1.heap.size (numB k) w1 v2 w2 := hown
  obtain ⟨A2, c2, rfl⟩ := hown.form
  have HB2 := Lib.hid (below_then HB1.out hown.2); have HL2 := Lib.hid (HL1.out.later hown.2); have HO2 := Lib.hid (own_base hown.1 HB1.out.size)
  clear hown HB1 HL1
  go_wp2_with fail
  refine (putBytes_any w2 A2 (some ⟨z, 1, none⟩) _ c2 8 8 _ h (Sl.of_own HO2.out) (sl_rg HHO.out HL2.out.lt (HLM.out _ _ HL2.out).r1) (by have := numB_le k; omega) (by omega)).mono ?_
  rintro e2 w3 ⟨v3, rfl, hown⟩
  obtain ⟨A3, c3, rfl⟩ := hown.form
  have HB3 := Lib.hid (below_then HB2.out hown.2); have HL3 := Lib.hid (HL2.out.later hown.2); have HO3 := Lib.hid (own_base hown.1 HB2.out.size)
  clear hown HB2 HL2 HO2
  have hlb : numB k ++ (numB 8 ++ h) = numB k ++ lstB h := by rw [lstB, HHO.out.len]
  rw [hlb] at HO3 ⊢
  clear hlb
  have HQ1 : Hid ((numB k ++ lstB h).length ≤ 40) := by show _ ≤ 40; have := lstB_len h; have := numB_le k; have := HHO.out.len; rw [List.length_append]; omega
  obtain ⟨q1, hq1⟩ : ∃ q, numB k ++ lstB h = q := ⟨_, rfl⟩
  have HE1 := Lib.hid hq1
  rw [hq1] at HO3 HQ1 ⊢
  clear hq1
  have c9 := (HLM.out _ _ HL3.out).c9
  go_wp2_with fail
  clear c9
  refine (putNum_any w3 A3 _ c3 q1 (Sl.of_own HO3.out) N (by show N < _; omega) (by have := HQ1.out; omega)).mono ?_
  rintro e2 w4 ⟨v4, rfl, hown⟩
  obtain ⟨A4, c4, rfl⟩ := hown.form
  have HB4 := Lib.hid (below_then HB3.out hown.2); have HL4 := Lib.hid (HL3.out.later hown.2); have HO4 := Lib.hid (own_base hown.1 HB3.out.size)
  clear hown HB3 HL3 HO3
  have hlb : q1 ++ numB N = lkHd k h N := by rw [← HE1.out, lkHd, List.append_assoc]
  rw [hlb] at HO4 ⊢
  clear hlb HE1 HQ1 u1 u2
  have c9 := (HLM.out _ _ HL4.out).c9
  go_wp2_with fail
  obtain ⟨hd, hhd⟩ : ∃ x, lkHd k h N = x := ⟨_, rfl⟩
  have HHD := Lib.hid hhd
  have HHL : Hid (hd.length ≤ 40) := by show _ ≤ 40; rw [← hhd]; exact lkHd_le HHO.out
  rw [hhd] at HO4 ⊢
  obtain ⟨e0, he0⟩ : ∃ x, hd ++ ksB ks = x := ⟨_, rfl⟩
  have HE0 := Lib.hid he0
  have HEL : Hid (e0.length ≤ 18040) := by show _ ≤ 18040; rw [← he0, List.length_append]; have := ksB_le ks HKO.out; rw [HKL.out] at this; have := HHL.out; omega
  clear hhd he0
  go_loopw [3, 5, 25] (fun bv _ iv wr => ∃ (j : Nat) (e : List Int) (v : Value), j ≤ N ∧ iv = .int .i64 j ∧ v = bv ∧ Hid (e = hd ++ ksB (ks.take j)) ∧ Hid (wr.ownsRow w.heap.size 5 1 v e.length (e.map (.int .u8))) ∧ Hid (Below w.heap.size w wr) ∧ Hid (Bk wr z 26 l)) (fun _ _ iv _ => N - (intOf iv).toNat)
  case atStart => exact ⟨0, hd, _, Nat.zero_le _, rfl, rfl, by show _ = _; simp [ksB], HO4, HB4, HL4⟩
  case round =>
    clear HO4 HB4 HL4
    obtain ⟨j, e, v, hj, rfl, hv, HE, HO, HB, HL⟩ := hrel
    subst hv
    obtain ⟨B9, d9, h9⟩ := own_form HO.out
    subst h9
    by_cases hlt : j < N
    · have hki : (j : Int) < N := by omega
      have hk0 : (0 : Int) ≤ j := by omega
      obtain ⟨x, hx⟩ : ∃ x, ks[j]? = some x := ⟨ks[j]'(by rw [HKL.out]; omega), List.getElem?_eq_getElem _⟩
      have hxo : DgOk x := HKO.out x (List.mem_of_getElem? hx)
      have hsl := (HK0.out.later HB.out).k
      obtain ⟨b, o, rfl, hbl, _⟩ := hsl.spot (by omega) (by omega)
      have HRG := Lib.hid (sl_dgl hsl HK0.out.ko hx)
      have HXO := Lib.hid hxo; have HXS := Lib.hid (hdg_size _ hxo)
      have HEN : Hid (e ++ lstB x = hd ++ ksB (ks.take (j + 1))) := by show _ = _; rw [ksB_snoc hx, HE.out, List.append_assoc]
      have HEL9 : Hid (e.length ≤ 18040) := by
        show _ ≤ 18040
        have h1 := ksB_le (ks.take j) (HKO.out.take j)
        have h2 : (ks.take j).length ≤ 1000 := by rw [List.length_take]; omega
        have h3 := HHL.out
        rw [HE.out, List.length_append]; omega
      clear hx hxo hsl hbl
      go_wp2_with (first
        | (with_reducible refine wpList_load_mid rfl 23 _ rfl b (o + j * 8) rfl (dl x) _ HRG.out Try.underlying23 rfl HXS.out ?_)
        | (with_reducible refine stop_store 23 _ _ rfl ?_))
      refine StopD.go ?_
      obtain ⟨g5, hg5⟩ : ∃ g, wr.heap.size = g := ⟨_, rfl⟩
      have hbn : Below wr.heap.size wr (wr.alloc (.cells #[.int .u8 0, .int .u8 0, .int .u8 0, .int .u8 0, .int .u8 0, .int .u8 0, .int .u8 0, .int .u8 0] 23)) := below_new wr _
      have kt : Bk (wr.alloc (.cells #[.int .u8 0, .int .u8 0, .int .u8 0, .int .u8 0, .int .u8 0, .int .u8 0, .int .u8 0, .int .u8 0] 23)) g5 23 ([] ++ (dl zeroD ++ [])) := by rw [← hg5]; exact Bk.new' wr _ #[.int .u8 0, .int .u8 0, .int .u8 0, .int .u8 0, .int .u8 0, .int .u8 0, .int .u8 0, .int .u8 0] rfl
      rw [hg5]
      refine wpList_store_part rfl 23 _ _ rfl g5 0 (.agg (dl x).toArray) (dl x) rfl rfl rfl 23 [] (dl zeroD) [] kt rfl (by rw [dl_len, dl_len, HXO.out.len]; rfl) (hdg_size _ HXO.out) (dl_one' _) ?_
      intro w5 hp
      have hbn : Below wr.heap.size wr w5 := hbn.grown hp.only hbn.size (fun q hq => by injection hq with hq; omega)
      have HD5 : Hid (Bk w5 g5 23 (dl x)) := by show Bk _ _ _ _; have := hp.bk; simpa using this
      clear hp kt hg5
      have HB5 := Lib.hid (below_then HB.out hbn); have HL5 := Lib.hid (HL.out.later hbn); have HO5 := Lib.hid (own_keep HO.out hbn)
      clear hbn HB HL HO HRG
      go_wp2_with fail
      refine (putBytes_any w5 B9 (some ⟨g5, 0, none⟩) e.length d9 8 8 e x (Sl.of_own HO5.out) (sl_rg HXO.out HD5.out.lt (Bk.range (pre := []) (post := []) (by simpa using HD5.out) rfl)) (by have := HEL9.out; omega) (by omega)).mono ?_
      rintro e2 w6 ⟨v6, rfl, hown⟩
      obtain ⟨A6, c6, rfl⟩ := hown.form
      have HB6 := Lib.hid (below_then HB5.out hown.2); have HL6 := Lib.hid (HL5.out.later hown.2); have HO6 := Lib.hid (own_base hown.1 HB5.out.size)
      clear hown HB5 HL5 HO5 HD5
      have hlb : e ++ (numB 8 ++ x) = e ++ lstB x := by rw [lstB, HXO.out.len]
      rw [hlb] at HO6 ⊢
      clear hlb
      obtain ⟨en, hen⟩ : ∃ y, e ++ lstB x = y := ⟨_, rfl⟩
      rw [hen] at HO6 HEN ⊢
      clear hen
      go_wp2_with fail
      go_roundw
      case rel => exact ⟨j + 1, en, _, hlt, by go_num, rfl, HEN, HO6, HB6, HL6⟩
      case measure => simp [intOf]; omega
    · have hki : ¬ ((j : Int) < N) := by omega
      obtain rfl : N = j := by omega
      have he : e0 = e := by rw [HE.out, List.take_of_length_le (by rw [HKL.out]; exact Nat.le_refl _), HE0.out]
      subst he
      have HO5 := HO; have HB5 := HB; have HL5 := HL
      clear HO HB HL HE
      have c10 := (HLM.out _ _ HL5.out).c10; have c11 := (HLM.out _ _ HL5.out).c11; have c12 := (HLM.out _ _ HL5.out).c12
      have hbi := fun W => build_i3 s c u W
      go_wp2_with ((with_reducible refine wpList_build rfl 134 _ rfl #[(0, .int .i64 s), (1, .int .i64 c), (2, .int .i64 u)] ?_ _ (hbi _) ?_); focus (simp [Act.eval, Act.put]; done))
      clear c10 c11 c12 hbi
      have HFIN : Hid (lkB k h ks s c u = e0 ++ nsB ([s, c, u].take 3)) := by show _ = _; rw [lkB, HKL.out, HHD.out, HE0.out]; rfl
      go_loopw [3, 7, 40] (fun bv _ iv wr => ∃ (j : Nat) (e : List Int) (v : Value), j ≤ 3 ∧ iv = .int .i64 j ∧ v = bv ∧ Hid (e = e0 ++ nsB ([s, c, u].take j)) ∧ Hid (wr.ownsRow w.heap.size 5 1 v e.length (e.map (.int .u8))) ∧ Hid (Below w.heap.size w wr)) (fun _ _ iv _ => 3 - (intOf iv).toNat)
      case atStart => exact ⟨0, e0, _, Nat.zero_le _, rfl, rfl, by show _ = _; simp [nsB], HO5, HB5⟩
      case round =>
        clear HO5 HB5 HL5
        obtain ⟨j, e, v, hj, rfl, hv, HE, HO, HB⟩ := hrel
        subst hv
        obtain ⟨B9, d9, h9⟩ := own_form HO.out
        subst h9
        have HEL9 : Hid (e.length ≤ 20000) := by
          show _ ≤ 20000
          have h1 := nsB_le ([s, c, u].take j)
          have h2 : ([s, c, u].take j).length ≤ 3 := by rw [List.length_take]; exact Nat.min_le_right _ _
          have h3 := HEL.out
          rw [HE.out, List.length_append]; omega
        by_cases hlt : j < 3
        · have hx : ∃ x : Nat, [s, c, u][j]? = some x ∧ x < 4611686018427387904 := by
            rcases (show j = 0 ∨ j = 1 ∨ j = 2 by omega) with rfl | rfl | rfl
            · exact ⟨s, rfl, by omega⟩
            · exact ⟨c, rfl, by omega⟩
            · exact ⟨u, rfl, by omega⟩
          obtain ⟨x, hx, hxb⟩ := hx
          have HEN : Hid (e ++ numB x = e0 ++ nsB ([s, c, u].take (j + 1))) := by show _ = _; rw [nsB_snoc hx, HE.out, List.append_assoc]
          have hux := u64_nat (k := x) (by omega)
          obtain ⟨en, hen⟩ : ∃ y, e ++ numB x = y := ⟨_, rfl⟩
          have HEE := Lib.hid hen
          rw [hen] at HEN
          clear hen
          have HXB : Hid (x < 18446744073709551616) := by show x < _; omega
          have hi0 : ∀ W, (Instr.index 134 (.agg #[.int .i64 s, .int .i64 c, .int .i64 u]) (.int .i64 0)).run Try.prog W = .ok (.int .i64 s) W := index_i3 s c u 0 s rfl
          have hi1 : ∀ W, (Instr.index 134 (.agg #[.int .i64 s, .int .i64 c, .int .i64 u]) (.int .i64 1)).run Try.prog W = .ok (.int .i64 c) W := index_i3 s c u 1 c rfl
          have hi2 : ∀ W, (Instr.index 134 (.agg #[.int .i64 s, .int .i64 c, .int .i64 u]) (.int .i64 2)).run Try.prog W = .ok (.int .i64 u) W := index_i3 s c u 2 u rfl
          rcases (show j = 0 ∨ j = 1 ∨ j = 2 by omega) with rfl | rfl | rfl
          all_goals
            injection hx with hx
            subst hx
            go_wp2_with fail
            refine (putNum_any wr B9 e.length d9 e (Sl.of_own HO.out) _ HXB (by have := HEL9.out; omega)).mono ?_
            rintro e2 w6 ⟨v6, rfl, hown⟩
            obtain ⟨A6, c6, rfl⟩ := hown.form
            have HB6 := Lib.hid (below_then HB.out hown.2); have HO6 := Lib.hid (own_base hown.1 HB.out.size)
            clear hown HB HO hux hi0 hi1 hi2
            rw [HEE.out] at HO6 ⊢
            clear HEE
            go_wp2_with fail
            go_roundw
            case rel => exact ⟨_, en, _, by decide, by go_num, rfl, HEN, HO6, HB6⟩
            case measure => simp [intOf]
        · obtain rfl : j = 3 := by omega
          have he : e = lkB k h ks s c u := by rw [HE.out, HFIN.out]
          go_wp2_with fail
          go_ret
          refine ⟨.slice B9 e.length d9, rfl, ?_, HB.out⟩
          rw [← he]; exact HO.out
end Go.Proofs.Ytbclfjdamklbpaa
