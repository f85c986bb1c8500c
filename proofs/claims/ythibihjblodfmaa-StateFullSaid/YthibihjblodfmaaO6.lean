/- Readers of bytes: the walk of Num, with the function that it hands to read. -/
import Derived.Test.YthibihjblodfmaaO5
import Derived.Deep.RegionHeld3
namespace Go.Proofs.Ythibihjblodfmaa
open Go.RowKit

/-- One cell of a captured variable. -/
theorem one_cell {w : World} {g : Nat} {t : TypeId} {v : Value} (h : Bk w g t [v]) : w.cell? ⟨g, 0, none⟩ = some v := by rw [h.cell]; rfl

theorem num1_err (w : World) (B : Nat) (A : Option Addr) (n c : Nat) (bs : List Int) (ho : ByOk bs) (hs : Sl w B 1 A n (bs.map (.int .u8))) (pm pn : Nat) (he : (lookB bs).2.2 ≠ 0) :
    Calls Try.prog 116 #[.slice A n c, .pointer (some ⟨pm, 0, none⟩), .pointer (some ⟨pn, 0, none⟩)] w fun e w' => e = .returned (.tuple #[.int .i64 0, .int .i64 (lookB bs).2.2]) ∧ w = w' := by
  have HS := Lib.hid hs; have HO := Lib.hid ho
  obtain ⟨E, hE⟩ : ∃ E, (lookB bs).2.2 = E := ⟨_, rfl⟩
  have HE := Lib.hid hE
  rw [hE] at he ⊢
  have he1 : (E != 0) = true := by simp [he]
  clear hs ho hE he
  go_enter Try.func116, Try.ntmps116
  go_wp2_with fail
  refine (look_any _ B A n c bs HO.out HS.out).mono ?_
  rintro e w1 ⟨rfl, rfl⟩
  rw [HE.out]
  go_wp2_with fail
  go_ret2
  exact ⟨rfl, rfl⟩
theorem num1_range (w : World) (B : Nat) (A : Option Addr) (n c : Nat) (bs : List Int) (ho : ByOk bs) (hs : Sl w B 1 A n (bs.map (.int .u8))) (pm pn : Nat) (most : Int) (hm : w.cell? ⟨pm, 0, none⟩ = some (.int .u64 most)) (he : (lookB bs).2.2 = 0) (hr : most < (lookB bs).1) :
    Calls Try.prog 116 #[.slice A n c, .pointer (some ⟨pm, 0, none⟩), .pointer (some ⟨pn, 0, none⟩)] w fun e w' => e = .returned (.tuple #[.int .i64 0, .int .i64 2]) ∧ w = w' := by
  have HS := Lib.hid hs; have HO := Lib.hid ho
  obtain ⟨V, hV⟩ : ∃ V, (lookB bs).1 = V := ⟨_, rfl⟩
  have HE := Lib.hid he; have HV := Lib.hid hV
  rw [hV] at hr
  clear hs ho hV he
  go_enter Try.func116, Try.ntmps116
  go_wp2_with fail
  refine (look_any _ B A n c bs HO.out HS.out).mono ?_
  rintro e w1 ⟨rfl, rfl⟩
  rw [HE.out, HV.out]
  go_wp2_with fail
  go_ret2
  exact ⟨rfl, rfl⟩
theorem num1_ok (w : World) (B : Nat) (A : Option Addr) (n c : Nat) (bs : List Int) (ho : ByOk bs) (hs : Sl w B 1 A n (bs.map (.int .u8))) (pm pn : Nat) (most : Int) (hm : w.cell? ⟨pm, 0, none⟩ = some (.int .u64 most)) (hn : Bk w pn 88 [.int .u64 0]) (he : (lookB bs).2.2 = 0) (hr : (lookB bs).1 ≤ most) :
    Calls Try.prog 116 #[.slice A n c, .pointer (some ⟨pm, 0, none⟩), .pointer (some ⟨pn, 0, none⟩)] w fun e w' => e = .returned (.tuple #[.int .i64 ((lookB bs).2.1 : Int), .int .i64 0]) ∧ w.setCell ⟨pn, 0, none⟩ (.int .u64 (lookB bs).1) = w' := by
  have HS := Lib.hid hs; have HO := Lib.hid ho
  obtain ⟨V, hV⟩ : ∃ V, (lookB bs).1 = V := ⟨_, rfl⟩
  obtain ⟨S, hS⟩ : ∃ S, (lookB bs).2.1 = S := ⟨_, rfl⟩
  have HE := Lib.hid he; have HV := Lib.hid hV; have HSS := Lib.hid hS
  rw [hV] at hr ⊢
  rw [hS]
  have hc := one_cell hn
  have hf := hn.frozen 0
  have hr1 : decide (most < V) = false := by simp; omega
  clear hs ho hV hS he hn
  go_enter Try.func116, Try.ntmps116
  go_wp2_with fail
  refine (look_any _ B A n c bs HO.out HS.out).mono ?_
  rintro e w1 ⟨rfl, rfl⟩
  rw [HE.out, HV.out, HSS.out]
  go_wp2_with fail
  go_ret2
  exact ⟨rfl, rfl⟩

theorem num_bad {s : Rd} (h : s.err ≠ 0) (most : Int) : numR s most = (s, 0) := by unfold numR; rw [if_neg h]
theorem num_look {s : Rd} (h : s.err = 0) (he : (lookB s.rest).2.2 ≠ 0) (most : Int) : numR s most = (⟨s.rest, (lookB s.rest).2.2⟩, 0) := by unfold numR; rw [if_pos h, if_neg he]
theorem num_range {s : Rd} (h : s.err = 0) (he : (lookB s.rest).2.2 = 0) {most : Int} (hr : most < (lookB s.rest).1) : numR s most = (⟨s.rest, 2⟩, 0) := by unfold numR; rw [if_pos h, if_pos he, if_neg (by omega)]
theorem num_yes {s : Rd} (h : s.err = 0) (he : (lookB s.rest).2.2 = 0) {most : Int} (hr : (lookB s.rest).1 ≤ most) : numR s most = (⟨s.rest.drop (lookB s.rest).2.1, 0⟩, (lookB s.rest).1) := by unfold numR; rw [if_pos h, if_pos he, if_pos hr]

theorem run_cut (t : TypeId) (A : Option Addr) (n c k : Nat) (hk : k ≤ n) (ht : Try.prog.underlying t = some (.slice 5) := by first | exact Try.underlying23 | assumption) (W : World) :
    (Instr.slice t (.slice A n c) (some (.int .i64 (k : Int))) none none).run Try.prog W = .ok (.slice (if c = k then A else Option.map (fun x => x.add k) A) (n - k) (c - k)) W := by
  obtain ⟨i0, hi, hi0, hi1, hi2⟩ := info_parts Try.infoU8
  have he : Try.prog.elem t = 5 := by simp [Program.elem, ht]
  rw [run_slice_l (P := Try.prog) (w := W) t A n c (by rw [he]; exact ht) .i64 k (by omega) (by omega)]
  simp [he, sizeOf, typeInfo, hi, hi1, sliced]
/-- What a read leaves: the reader in its new state, nothing else turned. -/
def RetN (g L : Nat) (p : Rd × Int) (w : World) (e : Ending) (w' : World) : Prop := e = .returned (.int .u64 p.2) ∧ RdAt w' g L p.1 ∧ w.grownBy w' (some g)
theorem only_refl' (w : World) (row : Option Nat) : w.grownBy w row := World.grownBy.refl w _

set_option maxRecDepth 20000 in
theorem rdNum_any (w : World) (g : Nat) {L : Nat} (s : Rd) (h : RdAt w g L s) (most : Int) : Calls Try.prog 70 #[.pointer (some ⟨g, 0, none⟩), .int .u64 most] w (RetN g L (numR s most) w) := by
  obtain ⟨A, n, c, bs, k, h1, h2, h3, h4, h5, h6, h7, h8⟩ := h
  have hgl := h1.lt
  obtain ⟨w1, hw1⟩ : ∃ w1, (w.alloc (.cells #[.int .u64 most] 88)).alloc (.cells #[.int .u64 0] 88) = w1 := ⟨_, rfl⟩
  have hb1 : Below w.heap.size w w1 := hw1 ▸ (below_new w _).alloc (by simp) _
  have k1 : Bk w1 g 171 [.slice A n c, .int .i64 (k : Int), .int .i64 s.err] := h1.later hb1
  have km : Bk w1 w.heap.size 88 [.int .u64 most] := hw1 ▸ (Bk.new w _ #[.int .u64 most]).alloc _
  have kn : Bk w1 (w.heap.size + 1) 88 [.int .u64 0] := hw1 ▸ Bk.at_ _ _ #[.int .u64 0] (by simp) rfl
  have hs1 : Sl w1 w.heap.size 1 A n (bs.map (.int .u8)) := h2.below hb1
  have hmf : ∀ (fn : Fn) (first cap : Array Value) (w : World), (Instr.makeFunc fn first cap).run Try.prog w = .ok (.func fn first cap) w := fun _ _ _ _ => rfl
  have HW := Lib.hid hw1; have HB := Lib.hid hb1; have HK := Lib.hid k1; have HM := Lib.hid km; have HN := Lib.hid kn; have HS := Lib.hid hs1; have HO := Lib.hid h3; have H7 := Lib.hid h7; have H8 := Lib.hid h8
  obtain ⟨c0, c1, c2⟩ := rd_cells k1
  have cm := one_cell km
  have cn := one_cell kn
  clear hw1 hb1 k1 km kn hs1 h1 h2 h3 h7 h8
  have hkw : IntKind.i64.wrap (k : Int) = k := IntWalk.i64_in _ (by omega)
  have hk0 : (0 : Int) ≤ k := by omega
  have hkn : (k : Int) ≤ n := by omega
  obtain ⟨f0, f1, f2⟩ := rd_frozen HK.out
  have fn := HN.out.frozen 0
  have hz1 : w1.heap.size = w.heap.size + 1 + 1 := by rw [← HW.out]; simp
  have HZ := Lib.hid hz1
  have hgl1 : g < w1.heap.size := HK.out.lt
  clear hz1
  obtain ⟨A', hA'⟩ : ∃ A', (if c = k then A else Option.map (fun x => x.add k) A) = A' := ⟨_, rfl⟩
  have hcut := run_cut 23 A n c k h4
  rw [hA'] at hcut
  have HSC : Hid (∀ (W : World), Sl W w.heap.size 1 A n (bs.map (.int .u8)) → Sl W w.heap.size 1 A' (n - k) ((bs.drop k).map (.int .u8))) := fun W hW => by
    have := sl_cut hW h5 h4
    rw [hA'] at this; exact this
  clear hA'
  by_cases he : s.err = 0
  · have he1 : (s.err != 0) = false := by simp [he]
    have HE := Lib.hid he
    by_cases hok : (lookB s.rest).2.2 = 0 ∧ (lookB s.rest).1 ≤ most
    · have HNB := Lib.hid (num_yes he hok.1 hok.2)
      have hlp := look_pos hok.1 (by rw [← H7.out]; exact HO.out.drop _)
      have HCL : Hid (∀ (W : World), Sl W w.heap.size 1 A n (bs.map (.int .u8)) → W.cell? ⟨w.heap.size, 0, none⟩ = some (.int .u64 most) → Bk W (w.heap.size + 1) 88 [.int .u64 0] → Calls Try.prog 116 #[.slice A' (n - k) (c - k), .pointer (some ⟨w.heap.size, 0, none⟩), .pointer (some ⟨w.heap.size + 1, 0, none⟩)] W fun e w' => e = .returned (.tuple #[.int .i64 ((lookB s.rest).2.1 : Int), .int .i64 0]) ∧ W.setCell ⟨w.heap.size + 1, 0, none⟩ (.int .u64 (lookB s.rest).1) = w') := by
        intro W hW hm hn
        have := num1_ok W w.heap.size A' (n - k) (c - k) (bs.drop k) (HO.out.drop k) (HSC.out W hW) w.heap.size (w.heap.size + 1) most hm hn (by rw [H7.out]; exact hok.1) (by rw [H7.out]; exact hok.2)
        rw [H7.out] at this
        exact this
      have hlr : s.rest.length = n - k := by rw [← H7.out, List.length_drop, HS.out.length]
      obtain ⟨S, hS⟩ : ∃ S, (lookB s.rest).2.1 = S := ⟨_, rfl⟩
      obtain ⟨V, hV⟩ : ∃ V, (lookB s.rest).1 = V := ⟨_, rfl⟩
      rw [hS, hV] at HCL HNB
      rw [hS, hlr] at hlp
      have hSn : k + S ≤ n := by omega
      have hks : IntKind.i64.wrap ((k : Int) + S) = (k : Int) + S := IntWalk.i64_in _ (by omega)
      have HST : Hid (((w1.setCell ⟨w.heap.size + 1, 0, none⟩ (.int .u64 V)).drew).cell? ⟨g, 0, none⟩ = some (.slice A n c) ∧ ((w1.setCell ⟨w.heap.size + 1, 0, none⟩ (.int .u64 V)).drew).cell? ⟨g, 1, none⟩ = some (.int .i64 (k : Int))) := by
        obtain ⟨x0, x1, _⟩ := rd_cells (HK.out.far (p := ⟨w.heap.size + 1, 0, none⟩) (show g ≠ w.heap.size + 1 by omega) (.int .u64 V)).drew
        exact ⟨x0, x1⟩
      clear he hok hS hV hlp hlr
      go_enter Try.func70, Try.ntmps70
      go_upto_region 2 with fail
      rw [HW.out]
      go_wp2
      go_region_held3 (fun w' => w'.cell? ⟨g, 0, none⟩ = some (.slice A n c) ∧ w'.cell? ⟨g, 1, none⟩ = some (.int .i64 (k : Int))) (first | (with_reducible exact hS1) | go_keep)
        (first
          | (go_at_call 116; refine (HCL.out _ HS.out.drew cm HN.out.drew).mono ?_; rintro e w2 ⟨rfl, rfl⟩; have hS1 := HST.out))
      go_wp2
      go_end0
      go_wp2
      go_ret
      refine ⟨by rw [HNB.out]; rfl, ?_, only_set (only_drew (only_new (only_below (only_refl' w _) HB.out) (Nat.le_succ _) _)) _ _⟩
      rw [HNB.out]
      have hks2 : (k : Int) + S = ((k + S : Nat) : Int) := by omega
      refine ⟨A, n, c, bs, k + S, ?_, ?_, HO.out, hSn, h5, h6, by rw [← H7.out, List.drop_drop], H8.out⟩
      · rw [← hks2, ← HE.out]
        exact Bk.set_ (HK.out.far (p := ⟨w.heap.size + 1, 0, none⟩) (show g ≠ w.heap.size + 1 by omega) (.int .u64 V)).drew 1 _
      · exact sl_apart ((HS.out.setCell (Nat.le_succ _) _).more (by simpa [World.setCell] using HB.out.size)) (only_set (only_drew (only_refl' _ _)) 1 _) (fun ad e => (H8.out ad e).1)
    · obtain ⟨E, hE, HNB, HCL⟩ : ∃ E : Int, E ≠ 0 ∧ Hid (numR s most = (⟨s.rest, E⟩, 0)) ∧ Hid (∀ (W : World), Sl W w.heap.size 1 A n (bs.map (.int .u8)) → W.cell? ⟨w.heap.size, 0, none⟩ = some (.int .u64 most) → Calls Try.prog 116 #[.slice A' (n - k) (c - k), .pointer (some ⟨w.heap.size, 0, none⟩), .pointer (some ⟨w.heap.size + 1, 0, none⟩)] W fun e w' => e = .returned (.tuple #[.int .i64 0, .int .i64 E]) ∧ W = w') := by
        by_cases hl : (lookB s.rest).2.2 = 0
        · have hr : most < (lookB s.rest).1 := Int.not_le.1 fun h => hok ⟨hl, h⟩
          refine ⟨2, by decide, num_range he hl hr, fun W hW hm => ?_⟩
          exact num1_range W w.heap.size A' (n - k) (c - k) (bs.drop k) (HO.out.drop k) (HSC.out W hW) w.heap.size (w.heap.size + 1) most hm (by rw [H7.out]; exact hl) (by rw [H7.out]; exact hr)
        · refine ⟨_, hl, num_look he hl most, fun W hW hm => ?_⟩
          have := num1_err W w.heap.size A' (n - k) (c - k) (bs.drop k) (HO.out.drop k) (HSC.out W hW) w.heap.size (w.heap.size + 1) (by rw [H7.out]; exact hl)
          rw [H7.out] at this
          exact this
      have hE1 : (E != 0) = true := by simp [hE]
      clear he hE hok
      go_enter Try.func70, Try.ntmps70
      go_upto_region 2 with fail
      rw [HW.out]
      go_wp2
      go_region_held3 (fun w' => w'.cell? ⟨g, 0, none⟩ = some (.slice A n c) ∧ w'.cell? ⟨g, 1, none⟩ = some (.int .i64 (k : Int))) (first | go_keep)
        (first
          | (go_at_call 116; refine (HCL.out _ HS.out.drew cm).mono ?_; rintro e w2 ⟨rfl, rfl⟩))
      go_wp2
      refine bodyPost_ret (results_none rfl _ _ _) rfl ?_
      go_wp2
      go_ret
      refine ⟨by rw [HNB.out]; rfl, ?_, only_set (only_drew (only_below (only_refl' w _) HB.out)) _ _⟩
      rw [HNB.out]
      exact ⟨A, n, c, bs, k, Bk.set_ HK.out.drew 2 _, sl_apart (HS.out.more HB.out.size) (only_set (only_drew (only_refl' w1 _)) 2 (.int .i64 E)) (fun ad e => (H8.out ad e).1), HO.out, h4, h5, h6, H7.out, H8.out⟩
  · have HNB := Lib.hid (num_bad he most)
    have he1 : (s.err != 0) = true := by simp [he]
    go_enter Try.func70, Try.ntmps70
    go_upto_region 2 with fail
    rw [HW.out]
    go_wp2
    refine bodyPost_ret (results_none rfl _ _ _) rfl ?_
    go_wp2
    go_ret
    refine ⟨by rw [HNB.out]; rfl, ?_, only_below (only_refl' w _) HB.out⟩
    rw [HNB.out]
    exact ⟨A, n, c, bs, k, HK.out, HS.out.more HB.out.size, HO.out, h4, h5, h6, H7.out, H8.out⟩
end Go.Proofs.Ythibihjblodfmaa
