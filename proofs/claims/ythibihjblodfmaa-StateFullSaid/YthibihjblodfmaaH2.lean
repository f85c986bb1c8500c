/- Stirring a state: the program's and the document's. -/
import Derived.Test.YthibihjblodfmaaH1
import Derived.Deep.DeepCutAuto
namespace Go.Proofs.Ythibihjblodfmaa
open Go.RowKit

structure St where
  a : Int
  b : Int
  c : Int
  d : Int
def roundI (k : Int) (s : St) : St :=
  let a0 := xorI (addI s.a s.b) k
  let d1 := rotI (xorI s.d a0) 32
  let c1 := addI s.c d1
  let b1 := rotI (xorI s.b c1) 24
  let a1 := addI a0 b1
  let d2 := rotI (xorI d1 a1) 16
  let c2 := addI c1 d2
  let b2 := rotI (xorI b1 c2) 63
  ⟨a1, b2, c2, d2⟩
def roundsI : Nat → St → St
  | 0, s => s
  | k + 1, s => roundI ((k : Int) + 1) (roundsI k s)
def stirI (s : St) : St := roundsI 6 s
def takeI (s : St) (n : Int) : St := stirI ⟨xorI s.a n, s.b, s.c, s.d⟩
def stC (s : St) : List Value := [.int .u64 s.a, .int .u64 s.b, .int .u64 s.c, .int .u64 s.d]
def StAt (w : World) (g : Nat) (t : TypeId) (s : St) : Prop := Bk w g t (stC s)
theorem StAt.cells {w : World} {g : Nat} {t : TypeId} {s : St} (h : StAt w g t s) :
    w.cell? ⟨g, 0, none⟩ = some (.int .u64 s.a) ∧ w.cell? ⟨g, 1, none⟩ = some (.int .u64 s.b) ∧ w.cell? ⟨g, 2, none⟩ = some (.int .u64 s.c) ∧ w.cell? ⟨g, 3, none⟩ = some (.int .u64 s.d) ∧ ∀ i, w.frozen? ⟨g, i, none⟩ = false :=
  ⟨h.cell 0, h.cell 1, h.cell 2, h.cell 3, h.frozen⟩

theorem only_refl (w : World) (g : Nat) : w.grownBy w (some g) := World.grownBy.refl _ _
set_option maxRecDepth 20000 in
theorem stir_any (w : World) (g : Nat) (s : St) (h : StAt w g 182 s) :
    Calls Try.prog 143 #[.pointer (some ⟨g, 0, none⟩)] w fun e w' => e = .returned (.tuple #[]) ∧ StAt w' g 182 (stirI s) ∧ w.grownBy w' (some g) := by
  obtain ⟨c0, c1, c2, c3, cf⟩ := h.cells
  have hlt : g < w.heap.size := Bk.lt h
  have H := Lib.hid h
  clear h
  go_enter Try.func143, Try.ntmps143
  go_wp2_with fail
  go_quiet (fail)
  go_wp2_with fail
  go_loop [2, 3, 4, 5, 23] (fun a b c d i => ∃ k : Nat, k ≤ 6 ∧ i = .int .u64 k ∧ a = .int .u64 (roundsI k s).a ∧ b = .int .u64 (roundsI k s).b ∧ c = .int .u64 (roundsI k s).c ∧ d = .int .u64 (roundsI k s).d) (fun _ _ _ _ i => 6 - (intOf i).toNat)
  case atStart => exact ⟨0, by omega, rfl, rfl, rfl, rfl, rfl⟩
  case round =>
    obtain ⟨k, hk, rfl, rfl, rfl, rfl, rfl⟩ := hrel
    by_cases hlt : k < 6
    · obtain ⟨sk, hsk⟩ : ∃ sk, roundsI k s = sk := ⟨_, rfl⟩
      rw [hsk]
      have HSK := Lib.hid hsk; clear hsk
      have hk1 : (k : Int) < 6 := by omega
      go_wp2_with (go_at_call 145; refine (rot_any _ _ _ (by decide)).mono ?_; rintro e w' ⟨rfl, rfl⟩)
      go_round
      case rel =>
        refine ⟨k + 1, by omega, by go_num, ?_, ?_, ?_, ?_⟩ <;> (rw [show roundsI (k + 1) s = roundI ((k : Int) + 1) sk from by rw [roundsI, HSK.out]]; rfl)
      case measure => simp [intOf]; omega
    · have hk6 : roundsI k s = stirI s := by rw [show k = 6 by omega]; rfl
      have HK6 := Lib.hid hk6; clear hk6
      have hk1 : (6 : Int) ≤ k := by omega
      go_wp2_with fail
      rw [HK6.out]
      go_end0
      exact ⟨rfl, ((((Bk.drewN H.out nq).set_ 0 _).set_ 1 _).set_ 2 _).set_ 3 _, only_set (only_set (only_set (only_set (only_drewN (only_refl w g) nq) _ _) _ _) _ _) _ _⟩

theorem take_any (w : World) (g : Nat) (s : St) (h : StAt w g 182 s) (n : Int) :
    Calls Try.prog 140 #[.pointer (some ⟨g, 0, none⟩), .int .u64 n] w fun e w' => e = .returned (.tuple #[]) ∧ StAt w' g 182 (takeI s n) ∧ w.grownBy w' (some g) := by
  obtain ⟨c0, c1, c2, c3, cf⟩ := h.cells
  have hlt : g < w.heap.size := Bk.lt h
  have H := Lib.hid h
  clear h
  go_enter Try.func140, Try.ntmps140
  go_wp2_with fail
  go_region
  all_goals
    go_wp2_with fail
    refine (stir_any _ g ⟨xorI s.a n, s.b, s.c, s.d⟩ (((H.out : Bk w g _ _).set_ 0 (.int .u64 (xorI s.a n))).drew)).mono ?_
    rintro e w2 ⟨rfl, hs, hg⟩
    go_wp2_with fail
    go_end0
    exact ⟨rfl, hs, only_trans (only_drew (only_set (only_refl w g) _ _)) hg⟩

/-! ### the document's -/
/-- The state lies in block g, the answer's cells (still zero) behind it. -/
structure RS (w wr : World) (s : St) : Prop where
  st : StAt wr w.heap.size 188 s
  zs : StAt wr (w.heap.size + 1) 188 ⟨0, 0, 0, 0⟩
  bl : Below w.heap.size w wr
section
variable {w wr : World} {s : St}
theorem RS.set0 (h : RS w wr s) (v : Int) : RS w (wr.setCell ⟨w.heap.size, 0, none⟩ (.int .u64 v)) ⟨v, s.b, s.c, s.d⟩ := ⟨Bk.set_ h.st 0 _, Bk.far h.zs (by simp) _, h.bl.setCell (Nat.le_refl _) _⟩
theorem RS.set1 (h : RS w wr s) (v : Int) : RS w (wr.setCell ⟨w.heap.size, 1, none⟩ (.int .u64 v)) ⟨s.a, v, s.c, s.d⟩ := ⟨Bk.set_ h.st 1 _, Bk.far h.zs (by simp) _, h.bl.setCell (Nat.le_refl _) _⟩
theorem RS.set2 (h : RS w wr s) (v : Int) : RS w (wr.setCell ⟨w.heap.size, 2, none⟩ (.int .u64 v)) ⟨s.a, s.b, v, s.d⟩ := ⟨Bk.set_ h.st 2 _, Bk.far h.zs (by simp) _, h.bl.setCell (Nat.le_refl _) _⟩
theorem RS.set3 (h : RS w wr s) (v : Int) : RS w (wr.setCell ⟨w.heap.size, 3, none⟩ (.int .u64 v)) ⟨s.a, s.b, s.c, v⟩ := ⟨Bk.set_ h.st 3 _, Bk.far h.zs (by simp) _, h.bl.setCell (Nat.le_refl _) _⟩
theorem RS.cells (h : RS w wr s) : w.heap.size < wr.heap.size ∧ wr.cell? ⟨w.heap.size, 0, none⟩ = some (.int .u64 s.a) ∧ wr.cell? ⟨w.heap.size, 1, none⟩ = some (.int .u64 s.b) ∧ wr.cell? ⟨w.heap.size, 2, none⟩ = some (.int .u64 s.c) ∧
    wr.cell? ⟨w.heap.size, 3, none⟩ = some (.int .u64 s.d) ∧ ∀ i, wr.frozen? ⟨w.heap.size, i, none⟩ = false := ⟨Bk.lt h.st, h.st.cells⟩
end
theorem round_eq (k : Int) (s : St) : roundI k s =
    let a0 := xorI (addI s.a s.b) k
    let d1 := rotI (xorI s.d a0) 32
    let c1 := addI s.c d1
    let b1 := rotI (xorI s.b c1) 24
    let a1 := addI a0 b1
    let d2 := rotI (xorI d1 a1) 16
    let c2 := addI c1 d2
    ⟨a1, rotI (xorI b1 c2) 63, c2, d2⟩ := rfl

set_option maxRecDepth 20000 in
set_option maxHeartbeats 800000 in
theorem rstir_any (w : World) (s : St) :
    Calls Try.prog 142 #[.agg #[.int .u64 s.a, .int .u64 s.b, .int .u64 s.c, .int .u64 s.d]] w fun e w' =>
      e = .returned (.agg #[.int .u64 (stirI s).a, .int .u64 (stirI s).b, .int .u64 (stirI s).c, .int .u64 (stirI s).d]) ∧ Below w.heap.size w w' := by
  obtain ⟨w1, hw1⟩ : ∃ w1, (w.alloc (.cells #[.int .u64 s.a, .int .u64 s.b, .int .u64 s.c, .int .u64 s.d] 188)).alloc (.cells #[.int .u64 0, .int .u64 0, .int .u64 0, .int .u64 0] 188) = w1 := ⟨_, rfl⟩
  have hrs : RS w w1 s := ⟨hw1 ▸ (Bk.new w _ #[.int .u64 s.a, .int .u64 s.b, .int .u64 s.c, .int .u64 s.d]).alloc _, hw1 ▸ Bk.at_ _ _ #[.int .u64 0, .int .u64 0, .int .u64 0, .int .u64 0] (by simp) rfl, hw1 ▸ (below_new w _).alloc (by simp) _⟩
  have HW := Lib.hid hw1; have HR := Lib.hid hrs
  clear hw1 hrs
  go_enter Try.func142, Try.ntmps142
  go_wp2_with fail
  rw [HW.out]
  go_loopw [3] (fun i wr => ∃ k : Nat, k ≤ 6 ∧ i = .int .u64 ((k : Int) + 1) ∧ RS w wr (roundsI k s)) (fun i _ => 7 - (intOf i).toNat)
  case atStart => exact ⟨0, by omega, rfl, HR.out⟩
  case round =>
    obtain ⟨k, hk, rfl, hrs⟩ := hrel
    clear HR
    obtain ⟨sk, hsk⟩ : ∃ sk, roundsI k s = sk := ⟨_, rfl⟩
    rw [hsk] at hrs
    have HSK := Lib.hid hsk; clear hsk
    obtain ⟨hlt0, c0, c1, c2, c3, cf⟩ := hrs.cells
    by_cases hlt : k < 6
    · have hk1 : (k : Int) + 1 ≤ 6 := by omega
      obtain ⟨a0, ha0⟩ : ∃ a0, xorI (addI sk.a sk.b) ((k : Int) + 1) = a0 := ⟨_, rfl⟩
      have ha0' : bits .xor .u64 (IntKind.u64.wrap (sk.a + sk.b)) ((k : Int) + 1) = a0 := ha0
      have h1 := hrs.set0 a0
      have HA0 := Lib.hid ha0; have HA0' := Lib.hid ha0'; have H1 := Lib.hid h1
      clear ha0 ha0' h1 hrs
      go_wp2_with fail
      rw [HA0'.out]
      obtain ⟨W1, hW1⟩ : ∃ W1, wr.setCell ⟨w.heap.size, 0, none⟩ (.int .u64 a0) = W1 := ⟨_, rfl⟩
      rw [hW1] at H1 ⊢
      clear hW1 c0 c1 c2 c3 cf hlt0
      refine (left_any _ _ _ (by decide)).mono ?_
      rintro e w' ⟨rfl, rfl⟩
      obtain ⟨d1, hd1⟩ : ∃ d1, rotI (xorI sk.d a0) 32 = d1 := ⟨_, rfl⟩
      have hd1' : rotI (bits .xor .u64 sk.d a0) (Int.toNat 32) = d1 := hd1
      rw [hd1']
      obtain ⟨c1, hc1⟩ : ∃ c1, addI sk.c d1 = c1 := ⟨_, rfl⟩
      have hc1' : IntKind.u64.wrap (sk.c + d1) = c1 := hc1
      have h2 := (H1.out.set3 d1).set2 c1
      obtain ⟨x0, x1, x2, x3, x4, xf⟩ := H1.out.cells
      have HD1 := Lib.hid hd1; have HC1 := Lib.hid hc1; have HC1' := Lib.hid hc1'; have H2 := Lib.hid h2
      clear hd1 hd1' hc1 hc1' h2
      go_wp2_with fail
      rw [HC1'.out]
      obtain ⟨W2, hW2⟩ : ∃ W2, (W1.setCell ⟨w.heap.size, 3, none⟩ (.int .u64 d1)).setCell ⟨w.heap.size, 2, none⟩ (.int .u64 c1) = W2 := ⟨_, rfl⟩
      rw [hW2] at H2 ⊢
      clear hW2 x0 x1 x2 x3 x4 xf
      refine (left_any _ _ _ (by decide)).mono ?_
      rintro e w' ⟨rfl, rfl⟩
      obtain ⟨b1, hb1⟩ : ∃ b1, rotI (xorI sk.b c1) 24 = b1 := ⟨_, rfl⟩
      have hb1' : rotI (bits .xor .u64 sk.b c1) (Int.toNat 24) = b1 := hb1
      rw [hb1']
      obtain ⟨a1, ha1⟩ : ∃ a1, addI a0 b1 = a1 := ⟨_, rfl⟩
      have ha1' : IntKind.u64.wrap (a0 + b1) = a1 := ha1
      have h3 := (H2.out.set1 b1).set0 a1
      obtain ⟨x0, x1, x2, x3, x4, xf⟩ := H2.out.cells
      have HB1 := Lib.hid hb1; have HA1 := Lib.hid ha1; have HA1' := Lib.hid ha1'; have H3 := Lib.hid h3
      clear hb1 hb1' ha1 ha1' h3
      go_wp2_with fail
      rw [HA1'.out]
      obtain ⟨W3, hW3⟩ : ∃ W3, (W2.setCell ⟨w.heap.size, 1, none⟩ (.int .u64 b1)).setCell ⟨w.heap.size, 0, none⟩ (.int .u64 a1) = W3 := ⟨_, rfl⟩
      rw [hW3] at H3 ⊢
      clear hW3 x0 x1 x2 x3 x4 xf
      refine (left_any _ _ _ (by decide)).mono ?_
      rintro e w' ⟨rfl, rfl⟩
      obtain ⟨d2, hd2⟩ : ∃ d2, rotI (xorI d1 a1) 16 = d2 := ⟨_, rfl⟩
      have hd2' : rotI (bits .xor .u64 d1 a1) (Int.toNat 16) = d2 := hd2
      rw [hd2']
      obtain ⟨c2, hc2⟩ : ∃ c2, addI c1 d2 = c2 := ⟨_, rfl⟩
      have hc2' : IntKind.u64.wrap (c1 + d2) = c2 := hc2
      have h4 := (H3.out.set3 d2).set2 c2
      obtain ⟨x0, x1, x2, x3, x4, xf⟩ := H3.out.cells
      have HD2 := Lib.hid hd2; have HC2 := Lib.hid hc2; have HC2' := Lib.hid hc2'; have H4 := Lib.hid h4
      clear hd2 hd2' hc2 hc2' h4
      go_wp2_with fail
      rw [HC2'.out]
      obtain ⟨W4, hW4⟩ : ∃ W4, (W3.setCell ⟨w.heap.size, 3, none⟩ (.int .u64 d2)).setCell ⟨w.heap.size, 2, none⟩ (.int .u64 c2) = W4 := ⟨_, rfl⟩
      rw [hW4] at H4 ⊢
      clear hW4 x0 x1 x2 x3 x4 xf
      refine (left_any _ _ _ (by decide)).mono ?_
      rintro e w' ⟨rfl, rfl⟩
      obtain ⟨b2, hb2⟩ : ∃ b2, rotI (xorI b1 c2) 63 = b2 := ⟨_, rfl⟩
      have hb2' : rotI (bits .xor .u64 b1 c2) (Int.toNat 63) = b2 := hb2
      rw [hb2']
      have h5 := H4.out.set1 b2
      obtain ⟨x0, x1, x2, x3, x4, xf⟩ := H4.out.cells
      have e1 : roundsI (k + 1) s = ⟨a1, b2, c2, d2⟩ := by
        rw [roundsI, HSK.out, round_eq, HA0.out]; simp only []; rw [HD1.out, HC1.out, HB1.out, HA1.out, HD2.out, HC2.out, hb2]
      have H5 := Lib.hid h5; have E1 := Lib.hid e1
      clear hb2 hb2' h5 e1
      go_wp2_with fail
      go_roundw
      case rel => exact ⟨k + 1, by omega, by go_num, by rw [E1.out]; exact H5.out⟩
      case measure => simp [intOf]; omega
    · have hk6 : sk = stirI s := by rw [← HSK.out, show k = 6 by omega]; rfl
      have HK6 := Lib.hid hk6; clear hk6
      have hk1 : (6 : Int) < k + 1 := by omega
      obtain ⟨d0, d1, d2, d3, df⟩ := hrs.zs.cells
      have hltB : w.heap.size + 1 < wr.heap.size := Bk.lt hrs.zs
      have HBL := Lib.hid hrs.bl
      clear hrs
      go_wp2_with fail
      refine bodyPost_ret (v := .agg #[.int .u64 sk.a, .int .u64 sk.b, .int .u64 sk.c, .int .u64 sk.d]) (by simp [results, Try.results142, go_sem, d0, d1, d2, d3]) rfl ?_
      rw [HK6.out]
      exact ⟨rfl, (((HBL.out.setCell (Nat.le_succ _) _).setCell (Nat.le_succ _) _).setCell (Nat.le_succ _) _).setCell (Nat.le_succ _) _⟩
end Go.Proofs.Ythibihjblodfmaa
