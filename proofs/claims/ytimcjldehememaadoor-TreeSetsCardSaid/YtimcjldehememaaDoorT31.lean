/- TreeClones: the walk. -/
import Derived.Test.YtimcjldehememaaDoorT28
import Derived.LaidEqlPtr
namespace Go.Proofs.YtimcjldehememaaDoor
open Go.RowKit

theorem eqD_set {ls : List (List Int)} {k : Nat} {a y : List Int} (hy : ls[k]? = some y) : eqD ls (ls.set k a) = eqL a y ∧ eqD (ls.set k a) ls = eqL a y := by
  have h : (ls = ls.set k a) ↔ a = y := by
    constructor
    · intro he
      have h1 : ls[k]? = (ls.set k a)[k]? := congrArg (fun l : List (List Int) => l[k]?) he
      rw [hy, List.getElem?_set_self (List.getElem?_eq_some_iff.1 hy).1] at h1
      injection h1 with h1; exact h1.symm
    · rintro rfl
      exact (set_same ls k _ hy).symm
  constructor
  · unfold eqD eqL; exact decide_eq_decide.2 h
  · unfold eqD eqL; exact decide_eq_decide.2 (eq_comm.trans h)
theorem leafI_set {ls : List (List Int)} {k : Nat} (a : List Int) (hk : k < ls.length) : leafI (ls.set k a) k = a := by
  unfold leafI
  rw [if_pos ⟨by omega, by rw [List.length_set]; omega⟩, Int.toNat_natCast, List.getD_eq_getElem?_getD, List.getElem?_set_self hk]
  rfl
theorem TreeOf.hih {w : World} {lo hi : Nat} {T : Tr} {ls : List (List Int)} (t : TreeOf w lo hi T ls) : hi ≤ w.heap.size := by
  obtain ⟨ns, t, _⟩ := t
  exact t.hih
theorem TreeOf.rng {w w' : World} {lo hi lo' hi' : Nat} {T : Tr} {ls : List (List Int)} (t : TreeOf w lo hi T ls) (h : Rng lo' hi' w w') (hl : hi ≤ lo' ∨ hi' ≤ lo) : TreeOf w' lo hi T ls :=
  t.keep h.size fun b hb1 hb2 => h.block b (Nat.lt_of_lt_of_le hb2 t.hih) (by omega)
theorem cells_trio {w w' : World} {qa qc b q : Nat} {ta tc : TypeId} {a0 a1 a2 a3 a4 a5 a6 a7 b0 b1 b2 b3 b4 b5 b6 b7 c0 c1 c2 c3 c4 c5 c6 c7 : Int} (ha : DgAt w qa ta [a0, a1, a2, a3, a4, a5, a6, a7]) (hc : DgAt w qc tc [c0, c1, c2, c3, c4, c5, c6, c7]) (hb : w.rangeAt b q ([b0, b1, b2, b3, b4, b5, b6, b7].map (Value.int .u8))) (hl : b < w.heap.size) (h : Below w.heap.size w w') :
    w'.cell? ⟨qa, 0, none⟩ = some (.int .u8 a0) ∧ w'.cell? ⟨qa, 1, none⟩ = some (.int .u8 a1) ∧ w'.cell? ⟨qa, 2, none⟩ = some (.int .u8 a2) ∧ w'.cell? ⟨qa, 3, none⟩ = some (.int .u8 a3) ∧ w'.cell? ⟨qa, 4, none⟩ = some (.int .u8 a4) ∧ w'.cell? ⟨qa, 5, none⟩ = some (.int .u8 a5) ∧ w'.cell? ⟨qa, 6, none⟩ = some (.int .u8 a6) ∧ w'.cell? ⟨qa, 7, none⟩ = some (.int .u8 a7) ∧ w'.cell? ⟨qc, 0, none⟩ = some (.int .u8 c0) ∧ w'.cell? ⟨qc, 1, none⟩ = some (.int .u8 c1) ∧ w'.cell? ⟨qc, 2, none⟩ = some (.int .u8 c2) ∧ w'.cell? ⟨qc, 3, none⟩ = some (.int .u8 c3) ∧ w'.cell? ⟨qc, 4, none⟩ = some (.int .u8 c4) ∧ w'.cell? ⟨qc, 5, none⟩ = some (.int .u8 c5) ∧ w'.cell? ⟨qc, 6, none⟩ = some (.int .u8 c6) ∧ w'.cell? ⟨qc, 7, none⟩ = some (.int .u8 c7) ∧ w'.cell? ⟨b, q, none⟩ = some (.int .u8 b0) ∧ w'.cell? ⟨b, q + 1, none⟩ = some (.int .u8 b1) ∧ w'.cell? ⟨b, q + 2, none⟩ = some (.int .u8 b2) ∧ w'.cell? ⟨b, q + 3, none⟩ = some (.int .u8 b3) ∧ w'.cell? ⟨b, q + 4, none⟩ = some (.int .u8 b4) ∧ w'.cell? ⟨b, q + 5, none⟩ = some (.int .u8 b5) ∧ w'.cell? ⟨b, q + 6, none⟩ = some (.int .u8 b6) ∧ w'.cell? ⟨b, q + 7, none⟩ = some (.int .u8 b7) := by
  obtain ⟨e0, e1, e2, e3, e4, e5, e6, e7⟩ := cells8 (ha.later h)
  obtain ⟨f0, f1, f2, f3, f4, f5, f6, f7⟩ := range8 (range_below hb h hl)
  obtain ⟨g0, g1, g2, g3, g4, g5, g6, g7⟩ := cells8 (hc.later h)
  exact ⟨e0, e1, e2, e3, e4, e5, e6, e7, g0, g1, g2, g3, g4, g5, g6, g7, f0, f1, f2, f3, f4, f5, f6, f7⟩
theorem Rng.row {lo hi b q : Nat} {w w' : World} {cs : List Value} (h : Rng lo hi w w') (hg : b < lo ∨ hi ≤ b) (hb : b < w.heap.size) (hr : w.rangeAt b q cs) : w'.rangeAt b q cs := fun j u hu => by
  have h1 := hr j u hu
  have h2 : w'.heap[b]? = w.heap[b]? := h.block b hb hg
  unfold World.cell? at h1 ⊢
  rw [h2]
  exact h1

set_option maxRecDepth 20000 in
set_option maxHeartbeats 8000000 in
theorem law_TreeClones (w : World) (A : Option Addr) (n c : Nat) (vs : List Int) (i : Int) (leaf : List Int) (hd : DgOk leaf) (ho : U16 vs) (hs : Sl w w.heap.size 1 A n (vs.map (.int .u16))) :
    Calls Tryd.prog 9 #[.slice A n c, .int .i64 i, .agg (dgA leaf)] w fun e w' => e = .returned (.bool true) ∧ Below w.heap.size w w' := by
  obtain ⟨a0, a1, a2, a3, a4, a5, a6, a7, rfl⟩ := list8 leaf hd.len
  obtain ⟨w0, hw0⟩ : ∃ w0, w.alloc (.cells #[.int .u8 a0, .int .u8 a1, .int .u8 a2, .int .u8 a3, .int .u8 a4, .int .u8 a5, .int .u8 a6, .int .u8 a7] 26) = w0 := ⟨_, rfl⟩
  obtain ⟨g, hg⟩ : ∃ g, w.heap.size = g := ⟨_, rfl⟩
  have ka : DgAt w0 g 26 [a0, a1, a2, a3, a4, a5, a6, a7] := hw0 ▸ Bk.at_ _ _ _ hg rfl
  have hb0 : Below w.heap.size w w0 := hw0 ▸ below_new w _
  have HS := Lib.hid (hs.later hb0); have HO := Lib.hid ho; have HW0 := Lib.hid hw0; have HB0 := Lib.hid hb0; have HKA := Lib.hid ka; have HA := Lib.hid hd; have HG := Lib.hid hg
  have hn := hs.le
  have hvl : vs.length = n := hs.length
  have HVL := Lib.hid hvl
  clear hs ho hvl hw0 hb0 ka hg hd
  rw [show dgA [a0, a1, a2, a3, a4, a5, a6, a7] = #[.int .u8 a0, .int .u8 a1, .int .u8 a2, .int .u8 a3, .int .u8 a4, .int .u8 a5, .int .u8 a6, .int .u8 a7] from rfl]
  go_enter Tryd.func9, Tryd.ntmps9
  go_upto_region 1 with fail
  rw [HW0.out, HG.out]
  go_wp2_with fail
  refine (some_any _ A n c vs HO.out HS.out 30 (by decide)).mono ?_
  rintro e w1 ⟨⟨v, rfl, hown⟩, hb1⟩
  obtain ⟨m, hm, hm7⟩ : ∃ m, min 30 n = m ∧ m ≤ 30 := ⟨_, rfl, Nat.min_le_left _ _⟩
  have hlen : (someI vs 30).length = m := by rw [someI_len, HVL.out, hm]
  rw [hm] at hown
  have hdo := someI_ok HO.out 30
  obtain ⟨ls, hls⟩ : ∃ ls, someI vs 30 = ls := ⟨_, rfl⟩
  rw [hls] at hlen hdo hown
  have HB1 := Lib.hid (below_then HB0.out hb1)
  have HK1 := Lib.hid (HKA.out.later hb1)
  by_cases hm0 : 0 < m
  · obtain ⟨b1, c1, rfl, hgb, hgc⟩ := hown.form hm0
    obtain ⟨k, hk, hkm⟩ := rem_at (IntKind.u64.wrap i) m (by rw [IntKind.wrap_u64]; omega) hm0
    obtain ⟨y, hy⟩ : ∃ y, ls[k]? = some y := ⟨ls[k]'(by omega), List.getElem?_eq_getElem _⟩
    have hyo := hdo y (List.mem_of_getElem? hy)
    obtain ⟨y0, y1, y2, y3, y4, y5, y6, y7, rfl⟩ := list8 y hyo.len
    obtain ⟨ls', hls'⟩ : ∃ ls', ls.set k [a0, a1, a2, a3, a4, a5, a6, a7] = ls' := ⟨_, rfl⟩
    obtain ⟨r0, r1, r2, r3, r4, r5, r6, r7, hrr⟩ := list8 (rootI ls) (rootI_ok _).len
    obtain ⟨z, hz⟩ : ∃ z, eqL [a0, a1, a2, a3, a4, a5, a6, a7] [y0, y1, y2, y3, y4, y5, y6, y7] = z := ⟨_, rfl⟩
    have hed := eqD_set (a := [a0, a1, a2, a3, a4, a5, a6, a7]) hy
    rw [hls', hz] at hed
    have HED := Lib.hid hed
    have HLF : Hid (leafI ls' k = [a0, a1, a2, a3, a4, a5, a6, a7]) := by show _ = _; rw [← hls']; exact leafI_set _ (by omega)
    have HHB : Hid (hasB ls'.length k = true) := by show _ = _; rw [← hls', List.length_set, hasB]; exact decide_eq_true (by omega)
    have HR := Lib.hid hrr; have HDO := Lib.hid hdo; have HLS := Lib.hid hls'; have HL := Lib.hid hlen; have HY := Lib.hid hy
    have HSL := Lib.hid (Sl.of_own hown)
    have HRG := Lib.hid (show w1.rangeAt b1 (k * 8) ([y0, y1, y2, y3, y4, y5, y6, y7].map (Value.int .u8)) by have := sl_dg (Sl.of_own hown) hdo hy; rw [Nat.zero_add] at this; exact this)
    have heq1 : ∀ W, (Op.equalIn 10000 26 (.agg #[.int .u8 r0, .int .u8 r1, .int .u8 r2, .int .u8 r3, .int .u8 r4, .int .u8 r5, .int .u8 r6, .int .u8 r7]) (.agg #[.int .u8 r0, .int .u8 r1, .int .u8 r2, .int .u8 r3, .int .u8 r4, .int .u8 r5, .int .u8 r6, .int .u8 r7])).run Tryd.prog W = .ok true W := fun W => (dg_equal r0 r1 r2 r3 r4 r5 r6 r7 r0 r1 r2 r3 r4 r5 r6 r7 W).trans (by rw [eqL_self])
    have heq2 : ∀ W, (Op.equalIn 10000 26 (.agg #[.int .u8 a0, .int .u8 a1, .int .u8 a2, .int .u8 a3, .int .u8 a4, .int .u8 a5, .int .u8 a6, .int .u8 a7]) (.agg #[.int .u8 a0, .int .u8 a1, .int .u8 a2, .int .u8 a3, .int .u8 a4, .int .u8 a5, .int .u8 a6, .int .u8 a7])).run Tryd.prog W = .ok true W := fun W => (dg_equal a0 a1 a2 a3 a4 a5 a6 a7 a0 a1 a2 a3 a4 a5 a6 a7 W).trans (by rw [eqL_self])
    have heq3 : ∀ W, (Op.equalIn 10000 26 (.agg #[.int .u8 a0, .int .u8 a1, .int .u8 a2, .int .u8 a3, .int .u8 a4, .int .u8 a5, .int .u8 a6, .int .u8 a7]) (.agg #[.int .u8 y0, .int .u8 y1, .int .u8 y2, .int .u8 y3, .int .u8 y4, .int .u8 y5, .int .u8 y6, .int .u8 y7])).run Tryd.prog W = .ok z W := fun W => (dg_equal a0 a1 a2 a3 a4 a5 a6 a7 y0 y1 y2 y3 y4 y5 y6 y7 W).trans (by rw [hz])
    have HEQ1 := Lib.hid heq1; have HEQ2 := Lib.hid heq2; have HEQ3 := Lib.hid heq3
    have hgw0 : w.heap.size ≤ g := by have := HG.out; omega
    have hglt : g < w0.heap.size := Bk.lt HKA.out
    have hm1 : ((m : Int) == 0) = false := by simp; omega
    have hm2 : ¬ m = 0 := by omega
    have hm3 : ¬ (m : Int) = 0 := by omega
    have hm4 : (0 : Int) ≤ m := by omega
    have hm5 : IntKind.u64.wrap (m : Int) = m := by rw [IntKind.wrap_u64]; omega
    have hk5 : IntKind.u64.wrap (k : Int) = k := by rw [IntKind.wrap_u64]; omega
    have hk6 : IntKind.i64.wrap (k : Int) = k := by rw [IntKind.wrap_i64]; omega
    have hki : (k : Int) < m := by omega
    have hk0 : (0 : Int) ≤ k := by omega
    clear hown hdo hls' hrr hlen hy hyo hls hm HS HO HVL hz hed heq1 heq2 heq3
    go_wp2_with fail
    refine (tNew_any _ _ m c1 ls HDO.out HSL.out ⟨hm0, by omega⟩).mono ?_
    rintro e w2 ⟨T, hi, rfl, ht, hb2⟩
    have HT2 := Lib.hid ht
    have HB2 := Lib.hid hb2
    clear ht hb2
    go_wp2_with fail
    refine (tClone_any _ _ hi T ls HT2.out).mono ?_
    rintro e w3 ⟨T', hi', rfl, hne, ht', hb3⟩
    have HT3 := Lib.hid (HT2.out.later hb3)
    have HT3' := Lib.hid ht'
    have HHI := Lib.hid HT2.out.hih
    have HHI' := Lib.hid ht'.hih
    have HB3 := Lib.hid (below_then HB2.out hb3)
    obtain ⟨q2, hq2⟩ : ∃ q2, w2.heap.size = q2 := ⟨_, rfl⟩
    have HQ2 := Lib.hid hq2
    rw [hq2] at HT3' HHI
    have hne1 : ¬ T.g = T'.g := fun e => hne e.symm
    have hpe : (binOp .eql 55 (.pointer (some ⟨T'.g, 0, none⟩)) (.pointer (some ⟨T.g, 0, none⟩))).run Tryd.prog w3 = .ok (.bool false) w3 := by
      obtain ⟨ns, t1, _⟩ := HT3.out
      obtain ⟨ns', t2, _⟩ := HT3'.out
      obtain ⟨j, hj, hjs⟩ := Option.map_eq_some_iff.1 tree_size
      exact run_eql_ptr_other w3 Tryd.underlying55 hj (by rw [hjs]; decide) (by intro e; injection e with e; exact hne e) t2.row t1.row
    clear ht' hb3 hq2
    go_wp2_with fail
    refine (tSame_any _ _ hi' _ hi T' T ls ls HT3'.out HT3.out).mono ?_
    rintro e w4 ⟨rfl, q4, rfl⟩
    rw [eqD_self]
    go_wp2_with fail
    have HD4 := Lib.hid (below_draws w3 w3.heap.size q4)
    refine (tSame_any _ _ hi _ hi' T T' ls ls (HT3.out.later HD4.out) (HT3'.out.later HD4.out)).mono ?_
    rintro e w5 ⟨rfl, q5, rfl⟩
    rw [eqD_self]
    have HD5 := Lib.hid (below_draws w3 w3.heap.size (q4 + q5))
    go_wp2_with fail
    refine (tSame_nil_r _ _).mono ?_
    rintro e w5' ⟨rfl, rfl⟩
    go_wp2_with fail
    refine (told_any _).mono ?_
    rintro e w6 ⟨rfl, hb6⟩
    have HB6 := Lib.hid (HD5.out.trans hb6)
    clear hb6 HD4 HD5 hpe
    go_wp2_with fail
    refine (tRoot_any _ _ hi T ls (HT3.out.later HB6.out)).mono ?_
    rintro e w7 ⟨rfl, hb7⟩
    rw [HR.out, show dgA [r0, r1, r2, r3, r4, r5, r6, r7] = #[.int .u8 r0, .int .u8 r1, .int .u8 r2, .int .u8 r3, .int .u8 r4, .int .u8 r5, .int .u8 r6, .int .u8 r7] from rfl]
    have HB7 := Lib.hid (below_then HB6.out hb7)
    clear hb7 HB6
    go_upto_region 10 with fail
    obtain ⟨w8, hw8⟩ : ∃ w8, w7.alloc (.cells #[.int .u8 r0, .int .u8 r1, .int .u8 r2, .int .u8 r3, .int .u8 r4, .int .u8 r5, .int .u8 r6, .int .u8 r7] 26) = w8 := ⟨_, rfl⟩
    obtain ⟨h, hh⟩ : ∃ h, w7.heap.size = h := ⟨_, rfl⟩
    have k8 : DgAt w8 h 26 [r0, r1, r2, r3, r4, r5, r6, r7] := hw8 ▸ Bk.at_ _ _ _ hh rfl
    have hb8 := below_then HB7.out (hw8 ▸ below_new w7 _)
    have hb18 := below_then HB3.out hb8
    have HB18 := Lib.hid hb18
    have HB8 := Lib.hid hb8
    have HT8 := Lib.hid (HT3.out.later hb8)
    have HT8' := Lib.hid (HT3'.out.later hb8)
    have HKK : Hid (DgAt w8 g 26 [a0, a1, a2, a3, a4, a5, a6, a7] ∧ DgAt w8 h 26 [r0, r1, r2, r3, r4, r5, r6, r7]) := ⟨HK1.out.later hb18, k8⟩
    have HRG8 := Lib.hid (range_below HRG.out hb18 hgc)
    have hq21 : w1.heap.size ≤ q2 := by have := HQ2.out; have := HB2.out.size; omega
    have hhih : hi' ≤ h := by have := HHI'.out; have := HB7.out.size; omega
    have HHH : Hid (g < q2 ∧ b1 < q2 ∧ hi' ≤ h ∧ b1 < w8.heap.size) := ⟨by have := HB0.out.size; have := Bk.lt HK1.out; omega, by omega, hhih, by have := hb18.size; omega⟩
    rw [hw8, hh]
    clear hw8 hh k8 hb8 hb18 HB7 HT3 HT3' HK1 HRG
    have hS8 := cells_two HKK.out.1 HKK.out.2 (Below.refl _ _)
    have heq1 := HEQ1.out
    go_region_held3 (fun w' => w'.cell? ⟨g, 0, none⟩ = some (.int .u8 a0) ∧ w'.cell? ⟨g, 1, none⟩ = some (.int .u8 a1) ∧ w'.cell? ⟨g, 2, none⟩ = some (.int .u8 a2) ∧ w'.cell? ⟨g, 3, none⟩ = some (.int .u8 a3) ∧ w'.cell? ⟨g, 4, none⟩ = some (.int .u8 a4) ∧ w'.cell? ⟨g, 5, none⟩ = some (.int .u8 a5) ∧ w'.cell? ⟨g, 6, none⟩ = some (.int .u8 a6) ∧ w'.cell? ⟨g, 7, none⟩ = some (.int .u8 a7) ∧ w'.cell? ⟨h, 0, none⟩ = some (.int .u8 r0) ∧ w'.cell? ⟨h, 1, none⟩ = some (.int .u8 r1) ∧ w'.cell? ⟨h, 2, none⟩ = some (.int .u8 r2) ∧ w'.cell? ⟨h, 3, none⟩ = some (.int .u8 r3) ∧ w'.cell? ⟨h, 4, none⟩ = some (.int .u8 r4) ∧ w'.cell? ⟨h, 5, none⟩ = some (.int .u8 r5) ∧ w'.cell? ⟨h, 6, none⟩ = some (.int .u8 r6) ∧ w'.cell? ⟨h, 7, none⟩ = some (.int .u8 r7)) (first | (with_reducible exact hS10) | (with_reducible exact hS9) | (with_reducible exact hS8) | go_keep)
      (first
        | (go_at_call 25; refine (tSet_any _ q2 hi' T' ls (HT8'.out.later (below_draws w8 _ 1)) k (by rw [HL.out]; exact hkm) [a0, a1, a2, a3, a4, a5, a6, a7] HA.out).mono ?_; rintro e w9 ⟨rfl, ht9, hr9⟩; rw [HLS.out] at ht9; have HT9' := Lib.hid ht9; have HR9 : Hid (Rng q2 hi' w8 w9) := (Rng.of_below (below_draws w8 _ 1)).trans hr9; have hS9 := cells_two (HR9.out.bk (.inl HHH.out.1) HKK.out.1) (HR9.out.bk (.inr HHH.out.2.2.1) HKK.out.2) (Below.refl _ _); clear ht9 hr9)
        | (go_at_call 26; refine (tRoot_any _ _ hi T ls (HT8.out.rng HR9.out (.inl HHI.out))).mono ?_; rintro e w10 ⟨rfl, hb10⟩; rw [HR.out, show dgA [r0, r1, r2, r3, r4, r5, r6, r7] = #[.int .u8 r0, .int .u8 r1, .int .u8 r2, .int .u8 r3, .int .u8 r4, .int .u8 r5, .int .u8 r6, .int .u8 r7] from rfl]; have HB10 := Lib.hid hb10; have hS10 := cells_two ((HR9.out.bk (.inl HHH.out.1) HKK.out.1).later hb10) ((HR9.out.bk (.inr HHH.out.2.2.1) HKK.out.2).later hb10) (Below.refl _ _); clear hb10))
    have HT10' := Lib.hid (HT9'.out.later HB10.out)
    have HT10 := Lib.hid ((HT8.out.rng HR9.out (.inl HHI.out)).later HB10.out)
    have HK10 := Lib.hid ((HR9.out.bk (.inl HHH.out.1) HKK.out.1).later HB10.out)
    have hb9l : b1 < w9.heap.size := by have := HR9.out.size; have := HHH.out.2.2.2; omega
    have HRG10 := Lib.hid (range_below (HR9.out.row (.inl HHH.out.2.1) HHH.out.2.2.2 HRG8.out) HB10.out hb9l)
    have hb10l : b1 < w10.heap.size := by have := HB10.out.size; omega
    have HBW := Lib.hid ((HR9.out.below (HB1.out.trans (HB18.out.mono HB1.out.size)) (by have := HQ2.out; have := HB2.out.size; have := HB1.out.size; omega) (by have := HB18.out.size; have := HB1.out.size; omega)).trans (HB10.out.mono (by have := HR9.out.size; have := HB18.out.size; have := HB1.out.size; omega)))
    clear HT9' HT8 HT8' HR9 HB10 HRG8 hS8 hS9 hS10 heq1 HKK
    go_wp2_with fail
    refine (tLeaf_any _ _ hi' T' ls' HT10'.out k).mono ?_
    rintro e w11 ⟨rfl, hb11⟩
    rw [HLF.out, HHB.out, show dgA [a0, a1, a2, a3, a4, a5, a6, a7] = #[.int .u8 a0, .int .u8 a1, .int .u8 a2, .int .u8 a3, .int .u8 a4, .int .u8 a5, .int .u8 a6, .int .u8 a7] from rfl]
    have HB11 := Lib.hid hb11
    clear hb11
    go_upto_region 13 with fail
    obtain ⟨w12, hw12⟩ : ∃ w12, w11.alloc (.cells #[.int .u8 a0, .int .u8 a1, .int .u8 a2, .int .u8 a3, .int .u8 a4, .int .u8 a5, .int .u8 a6, .int .u8 a7] 26) = w12 := ⟨_, rfl⟩
    obtain ⟨h3, hh3⟩ : ∃ h3, w11.heap.size = h3 := ⟨_, rfl⟩
    have k12 : DgAt w12 h3 26 [a0, a1, a2, a3, a4, a5, a6, a7] := hw12 ▸ Bk.at_ _ _ _ hh3 rfl
    have hb12 := below_then HB11.out (hw12 ▸ below_new w11 _)
    have HK12 : Hid (DgAt w12 h3 26 [a0, a1, a2, a3, a4, a5, a6, a7] ∧ DgAt w12 g 26 [a0, a1, a2, a3, a4, a5, a6, a7] ∧ w12.rangeAt b1 (k * 8) ([y0, y1, y2, y3, y4, y5, y6, y7].map (Value.int .u8)) ∧ b1 < w12.heap.size) := ⟨k12, HK10.out.later hb12, range_below HRG10.out hb12 hb10l, by have := hb12.size; omega⟩
    have HT12 := Lib.hid (HT10.out.later hb12)
    have HT12' := Lib.hid (HT10'.out.later hb12)
    have HBX := Lib.hid (HBW.out.trans (hb12.mono HBW.out.size))
    rw [hw12, hh3]
    clear hw12 hh3 k12 hb12 HK10 HRG10 HT10 HT10' HBW HB11
    have hS12 := cells_trio HK12.out.1 HK12.out.2.1 HK12.out.2.2.1 HK12.out.2.2.2 (Below.refl _ _)
    have heq2 := HEQ2.out; have heq3 := HEQ3.out
    have tok1 : True := trivial
    go_region_held3 (fun w' => w'.cell? ⟨h3, 0, none⟩ = some (.int .u8 a0) ∧ w'.cell? ⟨h3, 1, none⟩ = some (.int .u8 a1) ∧ w'.cell? ⟨h3, 2, none⟩ = some (.int .u8 a2) ∧ w'.cell? ⟨h3, 3, none⟩ = some (.int .u8 a3) ∧ w'.cell? ⟨h3, 4, none⟩ = some (.int .u8 a4) ∧ w'.cell? ⟨h3, 5, none⟩ = some (.int .u8 a5) ∧ w'.cell? ⟨h3, 6, none⟩ = some (.int .u8 a6) ∧ w'.cell? ⟨h3, 7, none⟩ = some (.int .u8 a7) ∧ w'.cell? ⟨g, 0, none⟩ = some (.int .u8 a0) ∧ w'.cell? ⟨g, 1, none⟩ = some (.int .u8 a1) ∧ w'.cell? ⟨g, 2, none⟩ = some (.int .u8 a2) ∧ w'.cell? ⟨g, 3, none⟩ = some (.int .u8 a3) ∧ w'.cell? ⟨g, 4, none⟩ = some (.int .u8 a4) ∧ w'.cell? ⟨g, 5, none⟩ = some (.int .u8 a5) ∧ w'.cell? ⟨g, 6, none⟩ = some (.int .u8 a6) ∧ w'.cell? ⟨g, 7, none⟩ = some (.int .u8 a7) ∧ w'.cell? ⟨b1, k * 8, none⟩ = some (.int .u8 y0) ∧ w'.cell? ⟨b1, k * 8 + 1, none⟩ = some (.int .u8 y1) ∧ w'.cell? ⟨b1, k * 8 + 2, none⟩ = some (.int .u8 y2) ∧ w'.cell? ⟨b1, k * 8 + 3, none⟩ = some (.int .u8 y3) ∧ w'.cell? ⟨b1, k * 8 + 4, none⟩ = some (.int .u8 y4) ∧ w'.cell? ⟨b1, k * 8 + 5, none⟩ = some (.int .u8 y5) ∧ w'.cell? ⟨b1, k * 8 + 6, none⟩ = some (.int .u8 y6) ∧ w'.cell? ⟨b1, k * 8 + 7, none⟩ = some (.int .u8 y7)) (first | (with_reducible exact hS14) | (with_reducible exact hS13) | (with_reducible exact hS12) | go_keep)
      (first
        | (go_at_call 31; have _t := tok1; refine (tSame_any _ _ hi _ hi' T T' ls ls' (HT12.out.later (below_draws w12 _ 1)) (HT12'.out.later (below_draws w12 _ 1))).mono ?_; rintro e w13 ⟨rfl, hq⟩; rw [HED.out.1]; have E13 : Hid (Below w12.heap.size w12 w13) := (by obtain ⟨q, hq⟩ := hq; rw [hq]; exact (below_draws w12 _ 1).trans (below_draws _ _ q)); clear hq; have hS13 := cells_trio HK12.out.1 HK12.out.2.1 HK12.out.2.2.1 HK12.out.2.2.2 E13.out; clear tok1 _t)
        | (go_at_call 31; refine (tSame_any _ _ hi' _ hi T' T ls' ls (HT12'.out.later E13.out) (HT12.out.later E13.out)).mono ?_; rintro e w14 ⟨rfl, hq⟩; rw [HED.out.2]; have E14 : Hid (Below w12.heap.size w12 w14) := (by obtain ⟨q, hq⟩ := hq; rw [hq]; exact E13.out.trans (below_draws _ _ q)); clear hq; have hS14 := cells_trio HK12.out.1 HK12.out.2.1 HK12.out.2.2.1 HK12.out.2.2.2 E14.out))
    have HBF := Lib.hid (HBX.out.trans (E14.out.mono HBX.out.size))
    clear hS12 hS13 hS14 heq2 heq3
    go_wp2_with fail
    go_ret
    exact ⟨rfl, HBF.out⟩
  · obtain rfl : m = 0 := by omega
    obtain ⟨B1, c1, rfl⟩ := own_form hown
    clear hb1 hls hm
    go_wp2_with fail
    refine (new_none _ B1 0 c1 (by omega)).mono ?_
    rintro e w2 ⟨rfl, rfl⟩
    go_wp2_with fail
    refine (told_any _).mono ?_
    rintro e w3 ⟨rfl, hb3⟩
    have HB3 := Lib.hid (below_then HB1.out hb3)
    go_wp2_with fail
    go_ret
    exact ⟨rfl, HB3.out⟩
theorem law_TreeClones' (A : Option Addr) (n c : Nat) (vs : List Int) (i : Int) (leaf : List Int) (w : World) (hs : Sl w w.heap.size 1 A n (vs.map (.int .u16))) (hv : ∀ z ∈ vs, (Lit.int .u16 z).wf = true) (_ : (Lit.int .i64 i).wf = true) (hd : DgOk leaf) :
    Calls Tryd.prog 9 #[.slice A n c, .int .i64 i, .agg (dgA leaf)] w fun e w' => e = .returned (.bool true) ∧ Below w.heap.size w w' := law_TreeClones w A n c vs i leaf hd (u16_wf hv) hs
end Go.Proofs.YtimcjldehememaaDoor
