/- What locks and proofs are told by: the source. -/
import Derived.Test.YtbclfjdamklbpaaLM
namespace Go.Proofs.Ytbclfjdamklbpaa
set_option linter.unusedSimpArgs false
set_option linter.unusedVariables false
open Go.RowKit Go.Maps

theorem lsome_ok {s : Rd} {m : Int} (hs : ByOk s.rest) : ByOk (someR s m).2 := by
  unfold someR
  split
  · split
    · split
      · split
        · exact (hs.drop _).take _
        · exact fun b hb => by cases hb
      · exact fun b hb => by cases hb
    · exact fun b hb => by cases hb
  · exact fun b hb => by cases hb
theorem lsome_len {s : Rd} {most : Int} : (someR s most).2.length ≤ most.toNat := by
  unfold someR
  split
  · split
    · split
      · split
        · rename_i h3 _; simp only [List.length_take]; omega
        · simp
      · simp
    · simp
  · simp
theorem lnum_rng {s : Rd} (hs : ByOk s.rest) {most : Int} (hm : 0 ≤ most) : 0 ≤ (numR s most).2 ∧ (numR s most).2 ≤ most := by
  unfold numR
  split
  · split
    · rename_i h1 h2
      have := look_pos h2 hs
      split
      · rename_i h3; exact ⟨this.1, h3⟩
      · exact ⟨Int.le_refl _, hm⟩
    · exact ⟨Int.le_refl _, hm⟩
  · exact ⟨Int.le_refl _, hm⟩
/-- Two blocks turn: the reader's, and the source's. -/
structure Tn (w w' : World) (g gs : Nat) : Prop where
  os : w'.os = w.os
  tape : w'.tape = w.tape
  output : w'.output = w.output
  size : w.heap.size ≤ w'.heap.size
  blk : ∀ k, k < w.heap.size → k ≠ g → k ≠ gs → w'.heap[k]? = w.heap[k]?
section
variable {w w1 w' w'' : World} {g gs : Nat}
theorem Tn.refl : Tn w w g gs := ⟨rfl, rfl, rfl, Nat.le_refl _, fun _ _ _ _ => rfl⟩
theorem Tn.of2 (h1 : w.grownBy w1 (some g)) (h2 : w1.grownBy w' (some gs)) : Tn w w' g gs :=
  ⟨h2.os.trans h1.os, h2.tape.trans h1.tape, h2.output.trans h1.output, Nat.le_trans h1.size h2.size, fun k hk e1 e2 => (h2.block k (Nat.lt_of_lt_of_le hk h1.size) (by intro e; injection e with e; omega)).trans (h1.block k hk (by intro e; injection e with e; omega))⟩
theorem Tn.trans (h1 : Tn w w1 g gs) (h2 : Tn w1 w' g gs) : Tn w w' g gs :=
  ⟨h2.os.trans h1.os, h2.tape.trans h1.tape, h2.output.trans h1.output, Nat.le_trans h1.size h2.size, fun k hk e1 e2 => (h2.blk k (Nat.lt_of_lt_of_le hk h1.size) e1 e2).trans (h1.blk k hk e1 e2)⟩
theorem Tn.of_below (h : Below w.heap.size w w') : Tn w w' g gs := ⟨h.os, h.tape, h.output, h.size, fun k hk _ _ => h.block k hk⟩
theorem Tn.put {z : Nat} (h : Tn w w1 g gs) (hg : w1.grownBy w' (some z)) (hz : w.heap.size ≤ z) : Tn w w' g gs :=
  ⟨hg.os.trans h.os, hg.tape.trans h.tape, hg.output.trans h.output, Nat.le_trans h.size hg.size, fun k hk e1 e2 => (hg.block k (Nat.lt_of_lt_of_le hk h.size) (by intro e; injection e with e; omega)).trans (h.blk k hk e1 e2)⟩
theorem Tn.src (h : Tn w w1 g gs) (hg : w1.grownBy w' (some gs)) : Tn w w' g gs :=
  ⟨hg.os.trans h.os, hg.tape.trans h.tape, hg.output.trans h.output, Nat.le_trans h.size hg.size, fun k hk e1 e2 => (hg.block k (Nat.lt_of_lt_of_le hk h.size) (by intro e; injection e with e; omega)).trans (h.blk k hk e1 e2)⟩
theorem Tn.below {B : Nat} {w0 : World} (h : Tn w w' g gs) (hb : Below B w0 w) (h0 : B ≤ w.heap.size) (h1 : B ≤ g) (h2 : B ≤ gs) : Below B w0 w' :=
  hb.trans ⟨h.os, h.tape, h.output, h.size, fun p hp => h.blk p (by omega) (by omega) (by omega)⟩
theorem Tn.bk {k : Nat} {t : TypeId} {cs : List Value} (h : Tn w w' g gs) (hk : Bk w k t cs) (h1 : k ≠ g) (h2 : k ≠ gs) : Bk w' k t cs := (h.blk k hk.lt h1 h2).trans hk
theorem Tn.own {base size n : Nat} {e : TypeId} {v : Value} {xs : List Value} (h : Tn w w' g gs) (ho : w.ownsRow base e size v n xs) (h1 : v.ownBlock ≠ some g) (h2 : v.ownBlock ≠ some gs) : w'.ownsRow base e size v n xs := by
  obtain ⟨hl, ho⟩ := ho
  refine ⟨hl, ho.imp id ?_⟩
  rintro ⟨q, cap, cur, e1, e2, e3, r⟩
  have hq : q < w.heap.size := (Array.getElem?_eq_some_iff.1 e3).1
  have h1' : q ≠ g := fun e => h1 (by rw [e1]; simp [Value.ownBlock, e])
  have h2' : q ≠ gs := fun e => h2 (by rw [e1]; simp [Value.ownBlock, e])
  exact ⟨q, cap, cur, e1, e2, (h.blk q hq h1' h2').trans e3, r⟩
end
/-- A source: its reader, and the first error. -/
structure SrcAt (w : World) (gs g : Nat) (s : Rd × Int) : Prop where
  rd : RdAt w g g s.1
  sb : Bk w gs 110 [.pointer (some ⟨g, 0, none⟩), .int .i64 s.2]
  lt : g < gs
  ze : s.2 = 0 → s.1.err = 0
theorem SrcAt.later {w w' : World} {gs g : Nat} {s : Rd × Int} (h : SrcAt w gs g s) (hb : Below w.heap.size w w') : SrcAt w' gs g s := ⟨h.rd.later hb, h.sb.later hb, h.lt, h.ze⟩
theorem SrcAt.only {w w' : World} {gs g q : Nat} {s : Rd × Int} (h : SrcAt w gs g s) (hg : w.grownBy w' (some q)) (h1 : g ≠ q) (h2 : gs ≠ q) (h3 : g ≤ q) : SrcAt w' gs g s :=
  ⟨h.rd.only hg h1 h3, h.sb.grown hg (by intro e; injection e with e; omega), h.lt, h.ze⟩
def srcNum (s : Rd × Int) (most : Int) : (Rd × Int) × Int := if s.2 = 0 then (((numR s.1 most).1, (numR s.1 most).1.err), (numR s.1 most).2) else (s, 0)
def srcSome (s : Rd × Int) (most : Int) : (Rd × Int) × List Int := if s.2 = 0 then (((someR s.1 most).1, (someR s.1 most).1.err), (someR s.1 most).2) else (s, [])
def srcDg (s : Rd × Int) : (Rd × Int) × List Int :=
  if (srcSome s 8).1.2 = 0 then (if (srcSome s 8).2.length = 8 then ((srcSome s 8).1, (srcSome s 8).2) else (((srcSome s 8).1.1, 3), zeroD)) else ((srcSome s 8).1, zeroD)
def srcEnd (s : Rd × Int) : Int := if s.2 = 0 then endR s.1 else s.2
def RetSN (gs g : Nat) (p : (Rd × Int) × Int) (w : World) (e : Ending) (w' : World) : Prop := e = .returned (.int .i64 p.2) ∧ SrcAt w' gs g p.1 ∧ Tn w w' g gs
def RetSB (gs g : Nat) (p : (Rd × Int) × List Int) (w : World) (e : Ending) (w' : World) : Prop :=
  ∃ v, e = .returned v ∧ w'.ownsRow w.heap.size 5 1 v p.2.length (p.2.map (.int .u8)) ∧ SrcAt w' gs g p.1 ∧ Tn w w' g gs
def RetSD (gs g : Nat) (p : (Rd × Int) × List Int) (w : World) (e : Ending) (w' : World) : Prop := e = .returned (.agg (dl p.2).toArray) ∧ SrcAt w' gs g p.1 ∧ Tn w w' g gs
def RetSE (gs g : Nat) (x : Int) (w : World) (e : Ending) (w' : World) : Prop := e = .returned (.int .i64 x) ∧ Tn w w' g gs
theorem src_cells {w : World} {gs g : Nat} {s : Rd × Int} (h : SrcAt w gs g s) : w.cell? ⟨gs, 0, none⟩ = some (.pointer (some ⟨g, 0, none⟩)) ∧ w.cell? ⟨gs, 1, none⟩ = some (.int .i64 s.2) := ⟨by rw [h.sb.cell]; rfl, by rw [h.sb.cell]; rfl⟩
set_option maxRecDepth 20000 in
set_option maxHeartbeats 2000000 in
theorem srcNum_any (w : World) (gs g : Nat) (s : Rd × Int) (h : SrcAt w gs g s) (most : Int) (h0 : 0 ≤ most) (h1 : most ≤ 1152921504606846976) :
    Calls Try.prog 55 #[.pointer (some ⟨gs, 0, none⟩), .int .i64 most] w (RetSN gs g (srcNum s most) w) := by
  have HS := Lib.hid h
  obtain ⟨c0, c1⟩ := src_cells h
  by_cases he : s.2 = 0
  · rw [he] at c1
    have HE : Hid (s.2 = 0) := he
    have hwm : IntKind.u64.wrap most = most := by rw [IntKind.wrap_u64]; omega
    obtain ⟨x0, x1⟩ := lnum_rng h.rd.ok (most := most) h0
    obtain ⟨R, hR⟩ : ∃ R, numR s.1 most = R := ⟨_, rfl⟩
    have HDE : Hid (srcNum s most = ((R.1, R.1.err), R.2)) := by show _ = _; rw [srcNum, if_pos he, hR]
    have HR := Lib.hid (rdNum_any w g s.1 h.rd most)
    rw [hR] at HR x0 x1
    have hwr : IntKind.i64.wrap R.2 = R.2 := IntWalk.i64_in _ (by omega)
    clear h he hR x0 x1 h0 h1
    go_enter Try.func55, Try.ntmps55
    go_wp2_with fail
    refine HR.out.mono ?_
    rintro e w1 ⟨rfl, hr, hg⟩
    have HR1 := Lib.hid hr; have HG1 := Lib.hid hg
    have HB1 := Lib.hid (HS.out.sb.grown hg (by intro e; injection e with e; have := HS.out.lt; omega))
    clear hr hg c0 c1
    have c0 : w1.cell? ⟨gs, 0, none⟩ = some (.pointer (some ⟨g, 0, none⟩)) := by rw [HB1.out.cell]; rfl
    go_wp2_with fail
    refine (rdErr_any w1 g R.1 HR1.out).mono ?_
    rintro e w2 ⟨rfl, rfl⟩
    go_wp2_with (with_reducible refine stop_store 34 _ _ rfl ?_)
    refine StopD.go ?_
    refine wpList_store_part rfl 34 _ _ rfl gs 1 (.int .i64 R.1.err) [.int .i64 R.1.err] rfl rfl rfl 110 [.pointer (some ⟨g, 0, none⟩)] [.int .i64 s.2] [] HB1.out rfl rfl (by kernel_rfl) (by intro x hx; simp at hx; subst hx; rfl) ?_
    intro w3 hp
    have HB3 : Hid (Bk w3 gs 110 [.pointer (some ⟨g, 0, none⟩), .int .i64 R.1.err]) := by show Bk _ _ _ _; exact hp.bk
    have HR3 := Lib.hid (HR1.out.only hp.only (by have := HS.out.lt; omega) (by have := HS.out.lt; omega))
    have HT : Hid (Tn w w3 g gs) := Tn.of2 HG1.out hp.only
    clear hp c0
    go_wp2_with fail
    go_ret
    rw [HDE.out]
    exact ⟨rfl, ⟨HR3.out, HB3.out, HS.out.lt, fun h => h⟩, HT.out⟩
  · have hne : (s.2 != 0) = true := by simpa using he
    have HDE : Hid (srcNum s most = (s, 0)) := if_neg he
    clear h he
    go_enter Try.func55, Try.ntmps55
    go_wp2_with fail
    go_ret
    rw [HDE.out]
    exact ⟨rfl, HS.out, Tn.refl⟩
set_option maxRecDepth 20000 in
set_option maxHeartbeats 2000000 in
theorem srcSome_any (w : World) (gs g : Nat) (s : Rd × Int) (h : SrcAt w gs g s) (most : Int) (h0 : 0 ≤ most) (h1 : most ≤ 1073741824) :
    Calls Try.prog 58 #[.pointer (some ⟨gs, 0, none⟩), .int .i64 most] w (RetSB gs g (srcSome s most) w) := by
  have HS := Lib.hid h
  obtain ⟨c0, c1⟩ := src_cells h
  by_cases he : s.2 = 0
  · rw [he] at c1
    have HE : Hid (s.2 = 0) := he
    obtain ⟨R, hR⟩ : ∃ R, someR s.1 most = R := ⟨_, rfl⟩
    have HDE : Hid (srcSome s most = ((R.1, R.1.err), R.2)) := by show _ = _; rw [srcSome, if_pos he, hR]
    have HR := Lib.hid (rdBytes_any w g s.1 h.rd most h0 h1)
    rw [hR] at HR
    clear h he hR h0 h1
    go_enter Try.func58, Try.ntmps58
    go_wp2_with fail
    refine HR.out.mono ?_
    rintro e w1 ⟨v, rfl, hown, hr, hg⟩
    have HR1 := Lib.hid hr; have HG1 := Lib.hid hg; have HO1 := Lib.hid hown
    have HB1 := Lib.hid (HS.out.sb.grown hg (by intro e; injection e with e; have := HS.out.lt; omega))
    clear hr hg hown c0 c1
    have c0 : w1.cell? ⟨gs, 0, none⟩ = some (.pointer (some ⟨g, 0, none⟩)) := by rw [HB1.out.cell]; rfl
    go_wp2_with fail
    refine (rdErr_any w1 g R.1 HR1.out).mono ?_
    rintro e w2 ⟨rfl, rfl⟩
    go_wp2_with (with_reducible refine stop_store 34 _ _ rfl ?_)
    refine StopD.go ?_
    refine wpList_store_part rfl 34 _ _ rfl gs 1 (.int .i64 R.1.err) [.int .i64 R.1.err] rfl rfl rfl 110 [.pointer (some ⟨g, 0, none⟩)] [.int .i64 s.2] [] HB1.out rfl rfl (by kernel_rfl) (by intro x hx; simp at hx; subst hx; rfl) ?_
    intro w3 hp
    have HB3 : Hid (Bk w3 gs 110 [.pointer (some ⟨g, 0, none⟩), .int .i64 R.1.err]) := by show Bk _ _ _ _; exact hp.bk
    have HR3 := Lib.hid (HR1.out.only hp.only (by have := HS.out.lt; omega) (by have := HS.out.lt; omega))
    have HO3 := Lib.hid (own_only HO1.out hp.only (own_bk_ne HO1.out HB1.out (by decide)))
    have HT : Hid (Tn w w3 g gs) := Tn.of2 HG1.out hp.only
    clear hp c0
    go_wp2_with fail
    go_ret
    rw [HDE.out]
    exact ⟨v, rfl, HO3.out, ⟨HR3.out, HB3.out, HS.out.lt, fun h => h⟩, HT.out⟩
  · have hne : (s.2 != 0) = true := by simpa using he
    have HDE : Hid (srcSome s most = (s, [])) := if_neg he
    clear h he
    go_enter Try.func58, Try.ntmps58
    go_wp2_with fail
    go_ret
    rw [HDE.out]
    exact ⟨_, rfl, World.ownsRow_nil _ _ _ _, HS.out, Tn.refl⟩
theorem run_arrayAt8 (A : Option Addr) (c : Nat) (w : World) : (Instr.arrayAt 23 (.slice A 8 c)).run Try.prog w = .ok (.pointer A) w := by
  simp [Instr.arrayAt, run_underlying Try.underlying23]
theorem srcSome_ok {s : Rd × Int} {m : Int} (h : ByOk s.1.rest) : ByOk (srcSome s m).2 := by
  unfold srcSome
  split
  · exact lsome_ok h
  · exact fun b hb => by cases hb
theorem srcDg_ok {s : Rd × Int} (h : ByOk s.1.rest) : DgOk (srcDg s).2 := by
  unfold srcDg
  split
  · split
    · rename_i h8; exact ⟨h8, srcSome_ok h⟩
    · exact zero_ok
  · exact zero_ok
theorem build_dg0 (w : World) : (Instr.build 23 #[]).run Try.prog w = .ok (.agg (dl zeroD).toArray) w := by kernel_rfl
set_option maxRecDepth 20000 in
set_option maxHeartbeats 2000000 in
theorem srcDg_any (w : World) (gs g : Nat) (s : Rd × Int) (h : SrcAt w gs g s) :
    Calls Try.prog 53 #[.pointer (some ⟨gs, 0, none⟩)] w (RetSD gs g (srcDg s) w) := by
  have HZO : Hid (DgOk zeroD) := zero_ok
  obtain ⟨z, hz⟩ : ∃ z, w.heap.size = z := ⟨_, rfl⟩
  obtain ⟨w1, hw1⟩ : ∃ w1, w.alloc (.cells #[.int .u8 0, .int .u8 0, .int .u8 0, .int .u8 0, .int .u8 0, .int .u8 0, .int .u8 0, .int .u8 0] 23) = w1 := ⟨_, rfl⟩
  have hb1 : Below w.heap.size w w1 := hw1 ▸ below_new w _
  have kz : Bk w1 z 23 (dl zeroD) := hw1 ▸ Bk.at_ w _ _ hz rfl
  have HW := Lib.hid hw1; have HB1 := Lib.hid hb1; have HZ1 := Lib.hid kz; have HS1 := Lib.hid (h.later hb1); have HZ := Lib.hid hz
  have HGZ : Hid (g < z ∧ gs < z) := by show _ ∧ _; have h1 := h.sb.lt; have h2 := h.lt; omega
  have HR := Lib.hid (srcSome_any w1 gs g s HS1.out 8 (by decide) (by decide))
  obtain ⟨R, hR⟩ : ∃ R, srcSome s 8 = R := ⟨_, rfl⟩
  have HDE : Hid (srcDg s = if R.1.2 = 0 then (if R.2.length = 8 then (R.1, R.2) else ((R.1.1, 3), zeroD)) else (R.1, zeroD)) := by show _ = _; rw [srcDg, hR]
  have HRO : Hid (ByOk R.2) := by show ByOk _; rw [← hR]; exact srcSome_ok h.rd.ok
  rw [hR] at HR
  obtain ⟨D, hD⟩ : ∃ D, srcDg s = D := ⟨_, rfl⟩
  rw [hD] at HDE ⊢
  clear hw1 hb1 kz h hz hR hD
  go_enter Try.func53, Try.ntmps53
  go_upto_region 1 with fail
  rw [HW.out, HZ.out]
  go_wp2_with fail
  refine HR.out.mono ?_
  rintro e w2 ⟨v, rfl, hown, hs, ht⟩
  obtain ⟨A2, c2, rfl⟩ := own_form hown
  have HZ2 := Lib.hid (ht.bk HZ1.out (by have := HGZ.out; omega) (by have := HGZ.out; omega))
  have HS2 := Lib.hid hs; have HO2 := Lib.hid hown; have HT2 := Lib.hid ht
  clear hown hs ht HR
  obtain ⟨c0, c1⟩ := src_cells HS2.out
  obtain ⟨rn, hrn⟩ : ∃ n, R.2.length = n := ⟨_, rfl⟩
  have HRN := Lib.hid hrn
  have HTW : Hid (Tn w w2 g gs) := (Tn.of_below HB1.out).trans HT2.out
  have HZW : Hid (w.heap.size ≤ z) := Nat.le_of_eq HZ.out
  rw [hrn] at HO2 HDE ⊢
  clear hrn
  have HZI := Lib.hid (hdg_size _ HZO.out)
  obtain ⟨⟨s1, s2⟩, rb⟩ := R
  by_cases he : s2 = 0
  · subst he
    have HE : Hid ((0 : Int) = 0) := rfl
    by_cases h8 : rn = 8
    · subst h8
      have HDD : Hid (D = ((s1, 0), rb)) := by show _ = _; rw [HDE.out]; rw [if_pos rfl, if_pos rfl]
      have HDO : Hid (DgOk rb) := ⟨HRN.out, HRO.out⟩
      obtain ⟨b, hA⟩ : ∃ b, A2 = some ⟨b, 0, none⟩ ∧ w2.rangeAt b 0 (dl rb) := by
        rcases own_bk HO2.out with ⟨_, e, _⟩ | ⟨q, cap, ys, e, hq, hbk, hc, hc2, hl, ht⟩
        · cases e
        · injection e with e
          refine ⟨q, e, fun j v hv => ?_⟩
          rw [Nat.zero_add, hbk.cell]
          have h1 : (ys.take (8 * 1))[j]? = some v := by rw [ht]; exact hv
          rw [List.getElem?_take] at h1
          split at h1
          · exact h1
          · cases h1
      obtain ⟨rfl, hrg⟩ := hA
      have HRG := Lib.hid hrg
      have HDZ := Lib.hid (hdg_size _ HDO.out)
      have hap := fun W => run_arrayAt8 (some ⟨b, 0, none⟩) c2 W
      clear hrg HDE
      go_wp2_with (first
        | (with_reducible refine wpList_load_mid rfl 23 _ rfl b 0 rfl (dl rb) _ HRG.out Try.underlying23 rfl HDZ.out ?_)
        | (with_reducible refine stop_store 23 _ _ rfl ?_))
      clear hap c0 c1
      refine StopD.go ?_
      refine wpList_store_part rfl 23 _ _ rfl z 0 (.agg (dl rb).toArray) (dl rb) rfl rfl rfl 23 [] (dl zeroD) [] (by simpa using HZ2.out) rfl (by rw [dl_len, dl_len, HDO.out.len]; rfl) HDZ.out (dl_one' _) ?_
      intro w3 hp
      have HZ3 : Hid (Bk w3 z 23 (dl rb)) := by show Bk _ _ _ _; have := hp.bk; simpa using this
      have HS3 := Lib.hid (HS2.out.only hp.only (by have := HGZ.out; omega) (by have := HGZ.out; omega) (by have := HGZ.out; omega))
      have HT3 := Lib.hid (HTW.out.put hp.only HZW.out)
      clear hp
      go_wp2_with fail
      refine bodyPost_ret (results_cell_bk rfl _ _ z 23 (dl rb) _ rfl HZ3.out Try.underlying23 rfl HDZ.out) rfl ?_
      rw [HDD.out]
      exact ⟨rfl, HS3.out, HT3.out⟩
    · have HDD : Hid (D = ((s1, 3), zeroD)) := by show _ = _; rw [HDE.out]; rw [if_pos rfl, if_neg h8]
      have h8b : (rn != 8) = true := by simpa using h8
      have h8i : ((rn : Int) != 8) = true := by simp; omega
      have h8c : (rn == 8) = false := by simpa using h8
      have hb0 := build_dg0
      clear HDE h8
      go_wp2_with (with_reducible refine stop_store 34 _ _ rfl ?_)
      refine StopD.go ?_
      refine wpList_store_part rfl 34 _ _ rfl gs 1 (.int .i64 3) [.int .i64 3] rfl rfl rfl 110 [.pointer (some ⟨g, 0, none⟩)] [.int .i64 0] [] HS2.out.sb rfl rfl (by kernel_rfl) (by intro x hx; simp at hx; subst hx; rfl) ?_
      intro w3 hp
      have HS3 : Hid (SrcAt w3 gs g (s1, 3)) := ⟨HS2.out.rd.only hp.only (by have := HS2.out.lt; omega) (by have := HS2.out.lt; omega), by have := hp.bk; simpa using this, HS2.out.lt, fun h => absurd (show (3 : Int) = 0 from h) (by decide)⟩
      have HT3 := Lib.hid (HTW.out.src hp.only)
      have HZ3 := Lib.hid (HZ2.out.grown hp.only (by intro e; injection e with e; have := HGZ.out; omega))
      clear hp c0 c1
      obtain ⟨c0, c1⟩ := src_cells HS3.out
      go_wp2_with (first
        | ((with_reducible refine wpList_build rfl 23 _ rfl #[] ?_ _ (hb0 _) ?_); focus (simp [Act.eval, Act.put]; done))
        | (with_reducible refine stop_store 23 _ _ rfl ?_))
      clear hb0 c0 c1
      refine StopD.go ?_
      refine wpList_store_part rfl 23 _ _ rfl z 0 (.agg (dl zeroD).toArray) (dl zeroD) rfl rfl rfl 23 [] (dl zeroD) [] (by simpa using HZ3.out) rfl rfl HZI.out (dl_one' _) ?_
      intro w4 hp
      have HZ4 : Hid (Bk w4 z 23 (dl zeroD)) := by show Bk _ _ _ _; have := hp.bk; simpa using this
      have HS4 := Lib.hid (HS3.out.only hp.only (by have := HGZ.out; omega) (by have := HGZ.out; omega) (by have := HGZ.out; omega))
      have HT4 := Lib.hid (HT3.out.put hp.only HZW.out)
      clear hp
      go_wp2_with fail
      refine bodyPost_ret (results_cell_bk rfl _ _ z 23 (dl zeroD) _ rfl HZ4.out Try.underlying23 rfl HZI.out) rfl ?_
      rw [HDD.out]
      exact ⟨rfl, HS4.out, HT4.out⟩
  · have HDD : Hid (D = ((s1, s2), zeroD)) := by show _ = _; rw [HDE.out]; rw [if_neg he]
    have heb : (s2 == 0) = false := by simpa using he
    have hen : (s2 != 0) = true := by simpa using he
    have hb0 := build_dg0
    clear HDE he
    have HS3 := HS2; have HT3 := HTW; have HZ3 := HZ2
    go_wp2_with (first
      | ((with_reducible refine wpList_build rfl 23 _ rfl #[] ?_ _ (hb0 _) ?_); focus (simp [Act.eval, Act.put]; done))
      | (with_reducible refine stop_store 23 _ _ rfl ?_))
    clear hb0 c0 c1
    refine StopD.go ?_
    refine wpList_store_part rfl 23 _ _ rfl z 0 (.agg (dl zeroD).toArray) (dl zeroD) rfl rfl rfl 23 [] (dl zeroD) [] (by simpa using HZ3.out) rfl rfl HZI.out (dl_one' _) ?_
    intro w4 hp
    have HZ4 : Hid (Bk w4 z 23 (dl zeroD)) := by show Bk _ _ _ _; have := hp.bk; simpa using this
    have HS4 := Lib.hid (HS3.out.only hp.only (by have := HGZ.out; omega) (by have := HGZ.out; omega) (by have := HGZ.out; omega))
    have HT4 := Lib.hid (HT3.out.put hp.only HZW.out)
    clear hp
    go_wp2_with fail
    refine bodyPost_ret (results_cell_bk rfl _ _ z 23 (dl zeroD) _ rfl HZ4.out Try.underlying23 rfl HZI.out) rfl ?_
    rw [HDD.out]
    exact ⟨rfl, HS4.out, HT4.out⟩
set_option maxRecDepth 20000 in
set_option maxHeartbeats 2000000 in
theorem srcEnd_any (w : World) (gs g : Nat) (s : Rd × Int) (h : SrcAt w gs g s) :
    Calls Try.prog 59 #[.pointer (some ⟨gs, 0, none⟩)] w (RetSE gs g (srcEnd s) w) := by
  have HS := Lib.hid h
  obtain ⟨c0, c1⟩ := src_cells h
  obtain ⟨s1, s2⟩ := s
  by_cases he : s2 = 0
  · subst he
    have HDE : Hid (srcEnd (s1, 0) = endR s1) := rfl
    have HR := Lib.hid (rdEnd_any w g s1 h.rd)
    obtain ⟨x, hx⟩ : ∃ x, endR s1 = x := ⟨_, rfl⟩
    rw [hx] at HDE HR
    rw [HDE.out]
    clear h hx
    go_enter Try.func59, Try.ntmps59
    go_wp2_with fail
    refine HR.out.mono ?_
    rintro e w1 ⟨rfl, q, rfl⟩
    have HB : Hid (Below w.heap.size w (w.drewN q)) := below_draws w _ q
    obtain ⟨w1, hw1⟩ : ∃ w1, w.drewN q = w1 := ⟨_, rfl⟩
    rw [hw1] at HB ⊢
    have HS1 := Lib.hid (HS.out.later HB.out)
    clear hw1 c0 c1
    go_wp2_with (with_reducible refine stop_store 34 _ _ rfl ?_)
    refine StopD.go ?_
    refine wpList_store_part rfl 34 _ _ rfl gs 1 (.int .i64 x) [.int .i64 x] rfl rfl rfl 110 [.pointer (some ⟨g, 0, none⟩)] [.int .i64 0] [] HS1.out.sb rfl rfl (by kernel_rfl) (by intro x hx; simp at hx; subst hx; rfl) ?_
    intro w3 hp
    have HT : Hid (Tn w w3 g gs) := (Tn.of_below HB.out).src hp.only
    have c1 : w3.cell? ⟨gs, 1, none⟩ = some (.int .i64 x) := by rw [hp.bk.cell]; rfl
    clear hp
    go_wp2_with fail
    go_ret
    exact ⟨rfl, HT.out⟩
  · have hne : (s2 == 0) = false := by simpa using he
    have HDE : Hid (srcEnd (s1, s2) = s2) := if_neg he
    rw [HDE.out]
    clear h he
    go_enter Try.func59, Try.ntmps59
    go_wp2_with fail
    go_ret
    exact ⟨rfl, Tn.refl⟩
end Go.Proofs.Ytbclfjdamklbpaa
