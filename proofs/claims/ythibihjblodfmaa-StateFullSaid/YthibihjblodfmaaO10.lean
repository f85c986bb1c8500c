/- The document's reader. -/
import Derived.Test.YthibihjblodfmaaO7
import Derived.Test.YthibihjblodfmaaO9
namespace Go.Proofs.Ythibihjblodfmaa
open Go.RowKit

/-- A reader by value, its bytes below block B. -/
def RvAt (w : World) (B : Nat) (v : Value) (s : Rd) : Prop :=
  ∃ (A : Option Addr) (n c : Nat) (bs : List Int) (at_ : Nat), v = .agg #[.slice A n c, .int .i64 (at_ : Int), .int .i64 s.err] ∧ Sl w B 1 A n (bs.map (.int .u8)) ∧ ByOk bs ∧ at_ ≤ n ∧ n ≤ c ∧ n ≤ 1073741824 ∧ bs.drop at_ = s.rest
theorem RvAt.below {w w' : World} {B : Nat} {v : Value} {s : Rd} (h : RvAt w B v s) (hb : Below B w w') : RvAt w' B v s := by
  obtain ⟨A, n, c, bs, k, h1, h2, h3⟩ := h
  exact ⟨A, n, c, bs, k, h1, h2.below hb, h3⟩
theorem RvAt.more {w : World} {B B' : Nat} {v : Value} {s : Rd} (h : RvAt w B v s) (hb : B ≤ B') : RvAt w B' v s := by
  obtain ⟨A, n, c, bs, k, h1, h2, h3⟩ := h
  exact ⟨A, n, c, bs, k, h1, h2.more hb, h3⟩
theorem RvAt.ok {w : World} {B : Nat} {v : Value} {s : Rd} (h : RvAt w B v s) : ByOk s.rest := by
  obtain ⟨A, n, c, bs, k, h1, h2, h3, _, _, _, h4⟩ := h
  rw [← h4]; exact h3.drop _
theorem RvAt.rest_le {w : World} {B : Nat} {v : Value} {s : Rd} (h : RvAt w B v s) : s.rest.length ≤ 1073741824 := by
  obtain ⟨A, n, c, bs, k, h1, h2, h3, _, _, hn, h4⟩ := h
  rw [← h4, List.length_drop, h2.length]; omega
theorem RvAt.new {w : World} {B : Nat} {A : Option Addr} {n c : Nat} {bs : List Int} (hs : Sl w B 1 A n (bs.map (.int .u8))) (ho : ByOk bs) (hn : n ≤ 1073741824) (hc : n ≤ c) : RvAt w B (.agg #[.slice A n c, .int .i64 0, .int .i64 0]) ⟨bs, 0⟩ :=
  ⟨A, n, c, bs, 0, rfl, hs, ho, by omega, hc, hn, rfl⟩

theorem rFail_any (w : World) (A : Option Addr) (n c : Nat) (k e1 e : Int) :
    Calls Try.prog 121 #[.agg #[.slice A n c, .int .i64 k, .int .i64 e1], .int .i64 e] w fun en w' => en = .returned (.agg #[.slice A n c, .int .i64 k, .int .i64 e]) ∧ Below w.heap.size w w' := by
  go_enter Try.func121, Try.ntmps121
  go_wp2_with fail
  exact bodyPost_ret (v := .agg #[.slice A n c, .int .i64 k, .int .i64 e]) (by simp [results, Try.results121, go_sem]) rfl ⟨rfl, (below_new w _).alloc (by simp) _⟩
theorem rEnd_any (w : World) (B : Nat) (v : Value) (s : Rd) (h : RvAt w B v s) : Calls Try.prog 77 #[v] w fun en w' => en = .returned (.int .i64 (endR s)) ∧ Below w.heap.size w w' := by
  obtain ⟨A, n, c, bs, k, rfl, h2, h3, h4, h5, h6, h7⟩ := h
  have hl := h2.length
  have hr : s.rest.length = n - k := by rw [← h7, List.length_drop, hl]
  by_cases he : s.err = 0
  · have he1 : (s.err == 0) = true := by simp [he]
    by_cases hn : s.rest = []
    · have HE : Hid (endR s = 0) := by show _ = _; rw [endR, if_pos he, if_pos hn]
      have hl : s.rest.length = 0 := by rw [hn]; rfl
      have hkn : decide ((k : Int) < n) = false := by simp; omega
      have hkn2 : decide (k < n) = false := by simp; omega
      have HER := Lib.hid he
      clear hn hl he hr h2 h7
      go_enter Try.func77, Try.ntmps77
      go_wp2_with fail
      go_ret
      exact ⟨by rw [HE.out, ← HER.out]; rfl, below_new _ _⟩
    · have HE : Hid (endR s = 5) := by show _ = _; rw [endR, if_pos he, if_neg hn]
      have hl : 0 < s.rest.length := List.length_pos_iff.2 hn
      have hkn : decide ((k : Int) < n) = true := by simp; omega
      have hkn2 : decide (k < n) = true := by simp; omega
      have hkn3 : k < n := by omega
      clear hn hl he hr h2 h7
      go_enter Try.func77, Try.ntmps77
      go_wp2_with fail
      go_ret
      exact ⟨by rw [HE.out]; rfl, below_new _ _⟩
  · have he1 : (s.err == 0) = false := by simp [he]
    have HE : Hid (endR s = s.err) := by show _ = _; rw [endR, if_neg he]
    clear he hr h2 h7
    go_enter Try.func77, Try.ntmps77
    go_wp2_with fail
    go_ret
    exact ⟨by rw [HE.out]; rfl, below_new _ _⟩

/-- What a read of a number hands back. -/
def RetRN (B : Nat) (p : Rd × Int) (w : World) (e : Ending) (w' : World) : Prop := ∃ v, e = .returned (.tuple #[v, .int .u64 p.2]) ∧ RvAt w' B v p.1 ∧ Below w.heap.size w w'
theorem RetRN.mk {w w' : World} {B : Nat} {p q : Rd × Int} {v : Value} (hq : p = q) (hv : RvAt w B v q.1) (hB : B ≤ w.heap.size) (hb : Below w.heap.size w w') : RetRN B p w (.returned (.tuple #[v, .int .u64 q.2])) w' := by
  subst hq; exact ⟨v, rfl, hv.below (hb.mono hB), hb⟩
set_option maxRecDepth 20000 in
theorem rRead_any (w : World) (B : Nat) (hB : B ≤ w.heap.size) (v : Value) (s : Rd) (h : RvAt w B v s) (most : Int) : Calls Try.prog 74 #[v, .int .u64 most] w (RetRN B (numR s most) w) := by
  have hv := h
  obtain ⟨A, n, c, bs, k, rfl, h2, h3, h4, h5, h6, h7⟩ := h
  have HV : Hid (∀ e, RvAt w B (.agg #[.slice A n c, .int .i64 (k : Int), .int .i64 e]) ⟨s.rest, e⟩) := fun e => ⟨A, n, c, bs, k, rfl, h2, h3, h4, h5, h6, h7⟩
  have hl := h2.length
  have hr : s.rest.length = n - k := by rw [← h7, List.length_drop, hl]
  have hk0 : (0 : Int) ≤ k := by omega
  have hkn : (k : Int) ≤ n := by omega
  obtain ⟨A', hA'⟩ : ∃ A', (if c = k then A else Option.map (fun x => x.add k) A) = A' := ⟨_, rfl⟩
  have hcut := run_cut 23 A n c k h4
  rw [hA'] at hcut
  have HSg : Hid (∀ W, Below w.heap.size w W → Sl W B 1 A' (n - k) (s.rest.map (.int .u8))) := fun W hW => by
    have := sl_cut (h2.below (hW.mono hB)) h5 h4
    rw [hA', h7] at this; exact this
  have HO : Hid (ByOk s.rest) := by show ByOk _; rw [← h7]; exact h3.drop k
  have H7 := Lib.hid h7; have HSL := Lib.hid h2; have HO3 := Lib.hid h3; have HE := Lib.hid (Eq.refl s.err); have HR := Lib.hid hr; have HVV := Lib.hid hv
  clear hA' h2 h3 h7 hl hr hv
  by_cases he : s.err = 0
  · have he1 : (s.err != 0) = false := by simp [he]
    by_cases hlk : (lookB s.rest).2.2 = 0
    · by_cases hm : (lookB s.rest).1 ≤ most
      · have HN := Lib.hid (num_yes he hlk hm)
        have hlp := look_pos hlk HO.out
        obtain ⟨V, hV⟩ : ∃ V, (lookB s.rest).1 = V := ⟨_, rfl⟩
        obtain ⟨S, hS⟩ : ∃ S, (lookB s.rest).2.1 = S := ⟨_, rfl⟩
        have HE0 := Lib.hid hlk; have HV1 := Lib.hid hV; have HS1 := Lib.hid hS; have HEE := Lib.hid he
        rw [hV] at hm
        rw [hS, HR.out] at hlp
        obtain ⟨_, _, hs1, hs2⟩ := hlp
        have hmm : decide (most < V) = false := by simp; omega
        have hks : IntKind.i64.wrap ((k : Int) + S) = (k : Int) + S := IntWalk.i64_in _ (by omega)
        have hSk : k + S ≤ n := by omega
        clear hlk hV hS he
        go_enter Try.func74, Try.ntmps74
        go_wp2_with fail
        refine (rnumber_any _ B A' (n - k) (c - k) s.rest HO.out (HSg.out _ ((below_new w _).alloc (by simp) _))).mono ?_
        rintro e w1 ⟨rfl, rfl⟩
        rw [HE0.out, HV1.out, HS1.out]
        go_wp2_with fail
        refine bodyPost_ret (v := .tuple #[.agg #[.slice A n c, .int .i64 ((k : Int) + S), .int .i64 s.err], .int .u64 V]) (by simp [results, Try.results74, go_sem]) rfl ?_
        refine RetRN.mk (p := numR s most) (q := (⟨s.rest.drop S, 0⟩, V)) (by rw [HN.out, HS1.out, HV1.out]) ?_ hB ((below_new w _).alloc (by simp) _)
        refine ⟨A, n, c, bs, k + S, ?_, HSL.out, HO3.out, hSk, h5, h6, by rw [← H7.out, List.drop_drop]⟩
        rw [HEE.out]
        exact congrArg (fun z : Int => Value.agg #[.slice A n c, .int .i64 z, .int .i64 0]) (by omega)
      · have HN := Lib.hid (num_range he hlk (Int.not_le.1 hm))
        obtain ⟨V, hV⟩ : ∃ V, (lookB s.rest).1 = V := ⟨_, rfl⟩
        have HE0 := Lib.hid hlk; have HV1 := Lib.hid hV
        rw [hV] at hm
        have hmm : decide (most < V) = true := by simp; omega
        have hmm1 : most < V := by omega
        clear hlk hV he
        go_enter Try.func74, Try.ntmps74
        go_wp2_with fail
        refine (rnumber_any _ B A' (n - k) (c - k) s.rest HO.out (HSg.out _ ((below_new w _).alloc (by simp) _))).mono ?_
        rintro e w1 ⟨rfl, rfl⟩
        rw [HE0.out, HV1.out]
        go_wp2_with fail
        refine (rFail_any _ A n c k s.err 2).mono ?_
        rintro e w1 ⟨rfl, hb1⟩
        obtain ⟨hc1, hf1⟩ := below_rules hb1
        have hz1 : w.heap.size + 1 < w1.heap.size := by have := hb1.size; simp at this; omega
        have HB1 := Lib.hid (below_then ((below_new w _).alloc (by simp) _) hb1)
        clear hb1
        go_wp2_with fail
        refine bodyPost_ret (v := .tuple #[.agg #[.slice A n c, .int .i64 (k : Int), .int .i64 2], .int .u64 0]) (by simp [results, Try.results74, go_sem, hc1]) rfl ?_
        exact RetRN.mk HN.out (HV.out 2) hB (((HB1.out.setCell (Nat.le_succ _) _).setCell (Nat.le_succ _) _).setCell (Nat.le_succ _) _)
    · have HN := Lib.hid (num_look he hlk most)
      obtain ⟨E, hE⟩ : ∃ E, (lookB s.rest).2.2 = E := ⟨_, rfl⟩
      have HE0 := Lib.hid hE
      rw [hE] at hlk HN
      have hlk1 : (E == 0) = false := by simp [hlk]
      have hlk2 : (E != 0) = true := by simp [hlk]
      clear hE he
      go_enter Try.func74, Try.ntmps74
      go_wp2_with fail
      refine (rnumber_any _ B A' (n - k) (c - k) s.rest HO.out (HSg.out _ ((below_new w _).alloc (by simp) _))).mono ?_
      rintro e w1 ⟨rfl, rfl⟩
      rw [HE0.out]
      go_wp2_with fail
      refine (rFail_any _ A n c k s.err E).mono ?_
      rintro e w1 ⟨rfl, hb1⟩
      obtain ⟨hc1, hf1⟩ := below_rules hb1
      have hz1 : w.heap.size + 1 < w1.heap.size := by have := hb1.size; simp at this; omega
      have HB1 := Lib.hid (below_then ((below_new w _).alloc (by simp) _) hb1)
      clear hb1
      go_wp2_with fail
      refine bodyPost_ret (v := .tuple #[.agg #[.slice A n c, .int .i64 (k : Int), .int .i64 E], .int .u64 0]) (by simp [results, Try.results74, go_sem, hc1]) rfl ?_
      exact RetRN.mk HN.out (HV.out E) hB (((HB1.out.setCell (Nat.le_succ _) _).setCell (Nat.le_succ _) _).setCell (Nat.le_succ _) _)
  · have he1 : (s.err != 0) = true := by simp [he]
    have HNB := Lib.hid (num_bad he most)
    go_enter Try.func74, Try.ntmps74
    go_wp2_with fail
    exact bodyPost_ret (v := .tuple #[.agg #[.slice A n c, .int .i64 (k : Int), .int .i64 s.err], .int .u64 0]) (by simp [results, Try.results74, go_sem]) rfl (RetRN.mk HNB.out HVV.out hB ((below_new w _).alloc (by simp) _))
end Go.Proofs.Ythibihjblodfmaa
