/- Readers of bytes: what they read, and the walks of NewReader, Err, Left, End. Readers of bytes: the walk of Num, with the function that it hands to read. Readers of bytes: the walk of Bytes, with the function that it hands to read. -/
import Derived.Test.YtakfdlokgddaoaaDoorOA
import Derived.Deep.RegionHeld3
/-! Readers of bytes: what they read, and the walks of NewReader, Err, Left, End. -/
namespace Go.Proofs.YtakfdlokgddaoaaDoor
open Go.RowKit

/-- A reader: what is left, the first error. -/
structure Rd where
  rest : List Int
  err : Int
/-- A number, not above the most. -/
def numR (s : Rd) (most : Int) : Rd × Int :=
  if s.err = 0 then
    if (lookB s.rest).2.2 = 0 then
      if (lookB s.rest).1 ≤ most then (⟨s.rest.drop (lookB s.rest).2.1, 0⟩, (lookB s.rest).1) else (⟨s.rest, 2⟩, 0)
    else (⟨s.rest, (lookB s.rest).2.2⟩, 0)
  else (s, 0)
/-- At most so many bytes. -/
def someR (s : Rd) (most : Int) : Rd × List Int :=
  if s.err = 0 then
    if (lookB s.rest).2.2 = 0 then
      if (lookB s.rest).1 ≤ most then
        if (lookB s.rest).1 ≤ ((s.rest.length - (lookB s.rest).2.1 : Nat) : Int) then (⟨(s.rest.drop (lookB s.rest).2.1).drop (lookB s.rest).1.toNat, 0⟩, (s.rest.drop (lookB s.rest).2.1).take (lookB s.rest).1.toNat)
        else (⟨s.rest, 4⟩, [])
      else (⟨s.rest, 2⟩, [])
    else (⟨s.rest, (lookB s.rest).2.2⟩, [])
  else (s, [])
/-- That nothing is left. -/
def endR (s : Rd) : Int := if s.err = 0 then (if s.rest = [] then 0 else 5) else s.err

theorem look_pos {bs : List Int} (h : (lookB bs).2.2 = 0) (ho : ByOk bs) : 0 ≤ (lookB bs).1 ∧ (lookB bs).1 < 18446744073709551616 ∧ 1 ≤ (lookB bs).2.1 ∧ (lookB bs).2.1 ≤ bs.length := by
  obtain ⟨v, s, e⟩ : ∃ v s, lookB bs = (v, s, 0) := ⟨(lookB bs).1, (lookB bs).2.1, by rw [← h]⟩
  obtain ⟨h1, h2, h3, h4, _⟩ := look_back bs v s ho e
  rw [e]; exact ⟨h1, h2, h3, h4⟩
theorem look_err (bs : List Int) : (lookB bs).2.2 = 0 ∨ (lookB bs).2.2 = 3 ∨ (lookB bs).2.2 = 4 := by
  unfold lookB; simp only; split
  · simp
  · split <;> simp

/-- The slice behind its first k elements. -/
theorem sl_cut {w : World} {B n c k : Nat} {A : Option Addr} {f : Int → Value} {bs : List Int} (h : Sl w B 1 A n (bs.map f)) (hc : n ≤ c) (hk : k ≤ n) :
    Sl w B 1 (if c = k then A else Option.map (fun x => x.add k) A) (n - k) ((bs.drop k).map f) := by
  have hl := h.length
  refine ⟨by simp [hl], by have := h.le; omega, fun hp => ?_⟩
  obtain ⟨ad, rfl, hb, hcc⟩ := h.mem (by omega)
  rw [if_neg (by omega)]
  refine ⟨ad.add k, rfl, by rw [add_block]; exact hb, fun j u hu => ?_⟩
  rw [add_add']
  refine hcc _ _ ?_
  rw [List.getElem?_map, List.getElem?_drop] at hu
  rw [List.getElem?_map]; exact hu
theorem cut_block {A : Option Addr} {c k g : Nat} (h : ∀ ad, A = some ad → ad.block ≠ g) : ∀ ad, (if c = k then A else Option.map (fun x => x.add k) A) = some ad → ad.block ≠ g := by
  intro ad he
  split at he
  · exact h ad he
  · cases A with
    | none => simp at he
    | some a => simp at he; subst he; rw [add_block]; exact h a rfl
theorem Sl.front {w : World} {B n m : Nat} {A : Option Addr} {f : Int → Value} {bs : List Int} (h : Sl w B 1 A n (bs.map f)) (hm : m ≤ n) : Sl w B 1 A m ((bs.take m).map f) := by
  have hl := h.length
  refine ⟨by simp [hl]; omega, by have := h.le; omega, fun hp => ?_⟩
  obtain ⟨ad, rfl, hb, hcc⟩ := h.mem (by omega)
  refine ⟨ad, rfl, hb, fun j u hu => hcc j u ?_⟩
  rw [List.getElem?_map, List.getElem?_take] at hu
  split at hu
  · rw [List.getElem?_map]; exact hu
  · simp at hu

/-- A reader in memory: block g. -/
def RdAt (w : World) (g L : Nat) (s : Rd) : Prop :=
  ∃ (A : Option Addr) (n c : Nat) (bs : List Int) (at_ : Nat), Bk w g 118 [.slice A n c, .int .i64 (at_ : Int), .int .i64 s.err] ∧ Sl w w.heap.size 1 A n (bs.map (.int .u8)) ∧ ByOk bs ∧ at_ ≤ n ∧ n ≤ c ∧ n ≤ 1073741824 ∧ bs.drop at_ = s.rest ∧ ∀ ad, A = some ad → ad.block ≠ g ∧ ad.block < L
theorem RdAt.later {w w' : World} {g L : Nat} {s : Rd} (h : RdAt w g L s) (hb : Below w.heap.size w w') : RdAt w' g L s := by
  obtain ⟨A, n, c, bs, k, h1, h2, h3⟩ := h
  exact ⟨A, n, c, bs, k, h1.later hb, h2.later hb, h3⟩
theorem RdAt.only {w w' : World} {g L q : Nat} {s : Rd} (h : RdAt w g L s) (hg : w.grownBy w' (some q)) (hq : g ≠ q) (hL : L ≤ q) : RdAt w' g L s := by
  obtain ⟨A, n, c, bs, k, h1, h2, h3, h4, h5, h6, h7, h8⟩ := h
  exact ⟨A, n, c, bs, k, h1.grown hg (by intro h; injection h with h; omega), (sl_apart h2 hg (fun ad e => by have := (h8 ad e).2; omega)), h3, h4, h5, h6, h7, h8⟩
theorem RdAt.lt {w : World} {g L : Nat} {s : Rd} (h : RdAt w g L s) : g < w.heap.size := by
  obtain ⟨A, n, c, bs, k, h1, _⟩ := h
  exact h1.lt
theorem RdAt.ok {w : World} {g L : Nat} {s : Rd} (h : RdAt w g L s) : ByOk s.rest := by
  obtain ⟨A, n, c, bs, k, h1, h2, h3, _, _, _, h4, _⟩ := h
  rw [← h4]; exact h3.drop _
theorem RdAt.rest_le {w : World} {g L : Nat} {s : Rd} (h : RdAt w g L s) : s.rest.length ≤ 1073741824 := by
  obtain ⟨A, n, c, bs, k, h1, h2, h3, _, _, hn, h4, _⟩ := h
  rw [← h4, List.length_drop, h2.length]; omega

theorem rd_cells {w : World} {g : Nat} {a b c : Value} (h : Bk w g 118 [a, b, c]) :
    w.cell? ⟨g, 0, none⟩ = some a ∧ w.cell? ⟨g, 1, none⟩ = some b ∧ w.cell? ⟨g, 2, none⟩ = some c := ⟨by rw [h.cell]; rfl, by rw [h.cell]; rfl, by rw [h.cell]; rfl⟩
theorem rd_frozen {w : World} {g : Nat} {a b c : Value} (h : Bk w g 118 [a, b, c]) :
    w.frozen? ⟨g, 0, none⟩ = false ∧ w.frozen? ⟨g, 1, none⟩ = false ∧ w.frozen? ⟨g, 2, none⟩ = false := ⟨h.frozen 0, h.frozen 1, h.frozen 2⟩

set_option maxRecDepth 20000 in
theorem newReader_any (w : World) (A : Option Addr) (n c : Nat) (bs : List Int) (ho : ByOk bs) (hs : Sl w w.heap.size 1 A n (bs.map (.int .u8))) (hn : n ≤ 1073741824) :
    Calls Tryd.prog 31 #[.slice A n c] w fun e w' => (∃ g, e = .returned (.pointer (some ⟨g, 0, none⟩)) ∧ w.heap.size ≤ g ∧ RdAt w' g g ⟨bs, 0⟩) ∧ Below w.heap.size w w' := by
  have HS := Lib.hid hs; have HL := Lib.hid hs.length; have HO := Lib.hid ho
  clear hs ho
  go_enter Tryd.func31, Tryd.ntmps31
  go_wp2_with fail
  refine (fresh_any _ A n c bs HS.out 0 (by omega) (by omega)).mono ?_
  rintro e w1 ⟨v, rfl, hown, hb1⟩
  obtain ⟨A1, c1, rfl⟩ := own_form hown
  have HB1 := Lib.hid hb1; have HO1 := Lib.hid hown
  clear hb1 hown
  go_wp2_with fail
  go_ret
  have hb2 := HB1.out.trans ((below_new w1 (.cells #[.slice A1 bs.length c1, .int .i64 0, .int .i64 0] 118)).mono HB1.out.size)
  have hsl : Sl w1 w1.heap.size 1 A1 bs.length (bs.map (.int .u8)) := Sl.of_own HO1.out
  refine ⟨⟨w1.heap.size, rfl, HB1.out.size, A1, bs.length, c1, bs, 0, Bk.new' w1 _ _ rfl, hsl.later (below_new w1 _), HO.out, by omega, ?_, by rw [HL.out]; exact hn, rfl, fun ad e => ?_⟩, hb2⟩
  · rcases own_bk HO1.out with ⟨e, _, _⟩ | ⟨g', cap, zs, e, _, _, hnc, _⟩
    · injection e with e1 e2 e3; omega
    · injection e with e1 e2 e3; omega
  · subst e
    obtain ⟨g', cap, cur, e, _, hlt, _⟩ : ∃ (g' cap : Nat) (cur : List Value), (Value.slice (some ad) bs.length c1) = .slice (some ⟨g', 0, none⟩) bs.length cap ∧ True ∧ g' < w1.heap.size ∧ True := by
      rcases own_bk HO1.out with ⟨e, _, _⟩ | ⟨g', cap, zs, e, _, hbk, _⟩
      · injection e with e1; cases e1
      · exact ⟨g', cap, zs, e, trivial, hbk.lt, trivial⟩
    injection e with e1; injection e1 with e1
    subst e1
    exact ⟨by show g' ≠ _; omega, hlt⟩

theorem rdErr_any (w : World) (g : Nat) {L : Nat} (s : Rd) (h : RdAt w g L s) : Calls Tryd.prog 34 #[.pointer (some ⟨g, 0, none⟩)] w fun e w' => e = .returned (.int .i64 s.err) ∧ w = w' := by
  obtain ⟨A, n, c, bs, k, h1, _⟩ := h
  obtain ⟨c0, c1, c2⟩ := rd_cells h1
  clear h1
  go_enter Tryd.func34, Tryd.ntmps34
  go_wp2_with fail
  go_ret
  exact ⟨rfl, rfl⟩
theorem rdLeft_any (w : World) (g : Nat) {L : Nat} (s : Rd) (h : RdAt w g L s) : Calls Tryd.prog 63 #[.pointer (some ⟨g, 0, none⟩)] w fun e w' => e = .returned (.int .i64 (s.rest.length : Int)) ∧ ∃ q, w' = w.drewN q := by
  obtain ⟨A, n, c, bs, k, h1, h2, h3, h4, h5, h6, h7, _⟩ := h
  obtain ⟨c0, c1, c2⟩ := rd_cells h1
  have hl := h2.length
  have hr : s.rest.length = n - k := by rw [← h7, List.length_drop, hl]
  have HR := Lib.hid hr
  have hs1 : IntKind.i64.wrap ((n : Int) - k) = ((n - k : Nat) : Int) := by rw [IntWalk.i64_in _ (by omega)]; omega
  clear h1 h2 h3 h7 hl hr
  go_enter Tryd.func63, Tryd.ntmps63
  go_wp2_with fail
  go_quiet (fail)
  go_wp2_with fail
  go_ret
  exact ⟨by rw [HR.out]; rfl, _, rfl⟩
theorem rdEnd_any (w : World) (g : Nat) {L : Nat} (s : Rd) (h : RdAt w g L s) : Calls Tryd.prog 37 #[.pointer (some ⟨g, 0, none⟩)] w fun e w' => e = .returned (.int .i64 (endR s)) ∧ ∃ q, w' = w.drewN q := by
  have H := Lib.hid h
  clear h
  by_cases he : s.err = 0
  · have he1 : (s.err != 0) = false := by simp [he]
    by_cases hr : s.rest = []
    · have HE : Hid (endR s = 0) := by show _ = _; rw [endR, if_pos he, if_pos hr]
      have hl : s.rest.length = 0 := by rw [hr]; rfl
      have hl1 : decide ((0 : Int) < (s.rest.length : Int)) = false := by simp [hl]
      have hl2 : decide (0 < s.rest.length) = false := by simp [hl]
      have hl3 : ¬ 0 < s.rest.length := by omega
      clear hr hl he
      go_enter Tryd.func37, Tryd.ntmps37
      go_wp2_with fail
      refine (rdErr_any _ g s H.out).mono ?_
      rintro e w1 ⟨rfl, rfl⟩
      go_wp2_with fail
      refine (rdLeft_any _ g s H.out).mono ?_
      rintro e w1 ⟨rfl, q, rfl⟩
      go_wp2_with fail
      go_ret
      exact ⟨by rw [HE.out]; rfl, _, rfl⟩
    · have HE : Hid (endR s = 5) := by show _ = _; rw [endR, if_pos he, if_neg hr]
      have hl : 0 < s.rest.length := List.length_pos_iff.2 hr
      clear hr he
      go_enter Tryd.func37, Tryd.ntmps37
      go_wp2_with fail
      refine (rdErr_any _ g s H.out).mono ?_
      rintro e w1 ⟨rfl, rfl⟩
      go_wp2_with fail
      refine (rdLeft_any _ g s H.out).mono ?_
      rintro e w1 ⟨rfl, q, rfl⟩
      go_wp2_with fail
      go_ret
      exact ⟨by rw [HE.out]; rfl, _, rfl⟩
  · have he1 : (s.err != 0) = true := by simp [he]
    have HE : Hid (endR s = s.err) := by show _ = _; rw [endR, if_neg he]
    go_enter Tryd.func37, Tryd.ntmps37
    go_wp2_with fail
    refine (rdErr_any _ g s H.out).mono ?_
    rintro e w1 ⟨rfl, rfl⟩
    go_wp2_with fail
    refine (rdErr_any _ g s H.out).mono ?_
    rintro e w1 ⟨rfl, rfl⟩
    go_wp2_with fail
    go_ret
    exact ⟨by rw [HE.out]; rfl, 0, rfl⟩
end Go.Proofs.YtakfdlokgddaoaaDoor

/-! Readers of bytes: the walk of Num, with the function that it hands to read. -/
namespace Go.Proofs.YtakfdlokgddaoaaDoor
open Go.RowKit

/-- One cell of a captured variable. -/
theorem one_cell {w : World} {g : Nat} {t : TypeId} {v : Value} (h : Bk w g t [v]) : w.cell? ⟨g, 0, none⟩ = some v := by rw [h.cell]; rfl

theorem num1_err (w : World) (B : Nat) (A : Option Addr) (n c : Nat) (bs : List Int) (ho : ByOk bs) (hs : Sl w B 1 A n (bs.map (.int .u8))) (pm pn : Nat) (he : (lookB bs).2.2 ≠ 0) :
    Calls Tryd.prog 62 #[.slice A n c, .pointer (some ⟨pm, 0, none⟩), .pointer (some ⟨pn, 0, none⟩)] w fun e w' => e = .returned (.tuple #[.int .i64 0, .int .i64 (lookB bs).2.2]) ∧ w = w' := by
  have HS := Lib.hid hs; have HO := Lib.hid ho
  obtain ⟨E, hE⟩ : ∃ E, (lookB bs).2.2 = E := ⟨_, rfl⟩
  have HE := Lib.hid hE
  rw [hE] at he ⊢
  have he1 : (E != 0) = true := by simp [he]
  clear hs ho hE he
  go_enter Tryd.func62, Tryd.ntmps62
  go_wp2_with fail
  refine (look_any _ B A n c bs HO.out HS.out).mono ?_
  rintro e w1 ⟨rfl, rfl⟩
  rw [HE.out]
  go_wp2_with fail
  go_ret2
  exact ⟨rfl, rfl⟩
theorem num1_range (w : World) (B : Nat) (A : Option Addr) (n c : Nat) (bs : List Int) (ho : ByOk bs) (hs : Sl w B 1 A n (bs.map (.int .u8))) (pm pn : Nat) (most : Int) (hm : w.cell? ⟨pm, 0, none⟩ = some (.int .u64 most)) (he : (lookB bs).2.2 = 0) (hr : most < (lookB bs).1) :
    Calls Tryd.prog 62 #[.slice A n c, .pointer (some ⟨pm, 0, none⟩), .pointer (some ⟨pn, 0, none⟩)] w fun e w' => e = .returned (.tuple #[.int .i64 0, .int .i64 2]) ∧ w = w' := by
  have HS := Lib.hid hs; have HO := Lib.hid ho
  obtain ⟨V, hV⟩ : ∃ V, (lookB bs).1 = V := ⟨_, rfl⟩
  have HE := Lib.hid he; have HV := Lib.hid hV
  rw [hV] at hr
  clear hs ho hV he
  go_enter Tryd.func62, Tryd.ntmps62
  go_wp2_with fail
  refine (look_any _ B A n c bs HO.out HS.out).mono ?_
  rintro e w1 ⟨rfl, rfl⟩
  rw [HE.out, HV.out]
  go_wp2_with fail
  go_ret2
  exact ⟨rfl, rfl⟩
theorem num1_ok (w : World) (B : Nat) (A : Option Addr) (n c : Nat) (bs : List Int) (ho : ByOk bs) (hs : Sl w B 1 A n (bs.map (.int .u8))) (pm pn : Nat) (most : Int) (hm : w.cell? ⟨pm, 0, none⟩ = some (.int .u64 most)) (hn : Bk w pn 56 [.int .u64 0]) (he : (lookB bs).2.2 = 0) (hr : (lookB bs).1 ≤ most) :
    Calls Tryd.prog 62 #[.slice A n c, .pointer (some ⟨pm, 0, none⟩), .pointer (some ⟨pn, 0, none⟩)] w fun e w' => e = .returned (.tuple #[.int .i64 ((lookB bs).2.1 : Int), .int .i64 0]) ∧ w.setCell ⟨pn, 0, none⟩ (.int .u64 (lookB bs).1) = w' := by
  have HS := Lib.hid hs; have HO := Lib.hid ho
  obtain ⟨V, hV⟩ : ∃ V, (lookB bs).1 = V := ⟨_, rfl⟩
  obtain ⟨S, hS⟩ : ∃ S, (lookB bs).2.1 = S := ⟨_, rfl⟩
  have HE := Lib.hid he; have HV := Lib.hid hV; have HSS := Lib.hid hS
  rw [hV] at hr ⊢
  rw [hS]
  have hc := one_cell hn
  have hf := hn.frozen 0
  have hr1 : decide (most < V) = false := by simp; omega
  clear hs ho hV hS he hn
  go_enter Tryd.func62, Tryd.ntmps62
  go_wp2_with fail
  refine (look_any _ B A n c bs HO.out HS.out).mono ?_
  rintro e w1 ⟨rfl, rfl⟩
  rw [HE.out, HV.out, HSS.out]
  go_wp2_with fail
  go_ret2
  exact ⟨rfl, rfl⟩

theorem num_bad {s : Rd} (h : s.err ≠ 0) (most : Int) : numR s most = (s, 0) := by unfold numR; rw [if_neg h]
theorem num_look {s : Rd} (h : s.err = 0) (he : (lookB s.rest).2.2 ≠ 0) (most : Int) : numR s most = (⟨s.rest, (lookB s.rest).2.2⟩, 0) := by unfold numR; rw [if_pos h, if_neg he]
theorem num_range {s : Rd} (h : s.err = 0) (he : (lookB s.rest).2.2 = 0) {most : Int} (hr : most < (lookB s.rest).1) : numR s most = (⟨s.rest, 2⟩, 0) := by unfold numR; rw [if_pos h, if_pos he, if_neg (by omega)]
theorem num_yes {s : Rd} (h : s.err = 0) (he : (lookB s.rest).2.2 = 0) {most : Int} (hr : (lookB s.rest).1 ≤ most) : numR s most = (⟨s.rest.drop (lookB s.rest).2.1, 0⟩, (lookB s.rest).1) := by unfold numR; rw [if_pos h, if_pos he, if_pos hr]

theorem run_cut (t : TypeId) (A : Option Addr) (n c k : Nat) (hk : k ≤ n) (ht : Tryd.prog.underlying t = some (.slice 5) := by first | exact Tryd.underlying29 | assumption) (W : World) :
    (Instr.slice t (.slice A n c) (some (.int .i64 (k : Int))) none none).run Tryd.prog W = .ok (.slice (if c = k then A else Option.map (fun x => x.add k) A) (n - k) (c - k)) W := by
  obtain ⟨i0, hi, hi0, hi1, hi2⟩ := info_parts Tryd.infoU8
  have he : Tryd.prog.elem t = 5 := by simp [Program.elem, ht]
  rw [run_slice_l (P := Tryd.prog) (w := W) t A n c (by rw [he]; exact ht) .i64 k (by omega) (by omega)]
  simp [he, sizeOf, typeInfo, hi, hi1, sliced]
/-- What a read leaves: the reader in its new state, nothing else turned. -/
def RetN (g L : Nat) (p : Rd × Int) (w : World) (e : Ending) (w' : World) : Prop := e = .returned (.int .u64 p.2) ∧ RdAt w' g L p.1 ∧ w.grownBy w' (some g)
theorem only_refl' (w : World) (row : Option Nat) : w.grownBy w row := World.grownBy.refl w _

set_option maxRecDepth 20000 in
theorem rdNum_any (w : World) (g : Nat) {L : Nat} (s : Rd) (h : RdAt w g L s) (most : Int) : Calls Tryd.prog 36 #[.pointer (some ⟨g, 0, none⟩), .int .u64 most] w (RetN g L (numR s most) w) := by
  obtain ⟨A, n, c, bs, k, h1, h2, h3, h4, h5, h6, h7, h8⟩ := h
  have hgl := h1.lt
  obtain ⟨w1, hw1⟩ : ∃ w1, (w.alloc (.cells #[.int .u64 most] 56)).alloc (.cells #[.int .u64 0] 56) = w1 := ⟨_, rfl⟩
  have hb1 : Below w.heap.size w w1 := hw1 ▸ (below_new w _).alloc (by simp) _
  have k1 : Bk w1 g 118 [.slice A n c, .int .i64 (k : Int), .int .i64 s.err] := h1.later hb1
  have km : Bk w1 w.heap.size 56 [.int .u64 most] := hw1 ▸ (Bk.new w _ #[.int .u64 most]).alloc _
  have kn : Bk w1 (w.heap.size + 1) 56 [.int .u64 0] := hw1 ▸ Bk.at_ _ _ #[.int .u64 0] (by simp) rfl
  have hs1 : Sl w1 w.heap.size 1 A n (bs.map (.int .u8)) := h2.below hb1
  have hmf : ∀ (fn : Fn) (first cap : Array Value) (w : World), (Instr.makeFunc fn first cap).run Tryd.prog w = .ok (.func fn first cap) w := fun _ _ _ _ => rfl
  have HW := Lib.hid hw1; have HB := Lib.hid hb1; have HK := Lib.hid k1; have HM := Lib.hid km; have HN := Lib.hid kn; have HS := Lib.hid hs1; have HO := Lib.hid h3; have H7 := Lib.hid h7; have H8 := Lib.hid h8
  obtain ⟨c0, c1, c2⟩ := rd_cells k1
  have cm := one_cell km
  have cn := one_cell kn
  clear hw1 hb1 k1 km kn hs1 h1 h2 h3 h7 h8
  have hkw : IntKind.i64.wrap (k : Int) = k := IntWalk.i64_in _ (by omega)
  have hk0 : (0 : Int) ≤ k := by omega
  have hkn : (k : Int) ≤ n := by omega
  obtain ⟨f0, f1, f2⟩ := rd_frozen HK.out
  have fn := HN.out.frozen 0
  have hz1 : w1.heap.size = w.heap.size + 1 + 1 := by rw [← HW.out]; simp
  have HZ := Lib.hid hz1
  have hgl1 : g < w1.heap.size := HK.out.lt
  clear hz1
  obtain ⟨A', hA'⟩ : ∃ A', (if c = k then A else Option.map (fun x => x.add k) A) = A' := ⟨_, rfl⟩
  have hcut := run_cut 29 A n c k h4
  rw [hA'] at hcut
  have HSC : Hid (∀ (W : World), Sl W w.heap.size 1 A n (bs.map (.int .u8)) → Sl W w.heap.size 1 A' (n - k) ((bs.drop k).map (.int .u8))) := fun W hW => by
    have := sl_cut hW h5 h4
    rw [hA'] at this; exact this
  clear hA'
  by_cases he : s.err = 0
  · have he1 : (s.err != 0) = false := by simp [he]
    have HE := Lib.hid he
    by_cases hok : (lookB s.rest).2.2 = 0 ∧ (lookB s.rest).1 ≤ most
    · have HNB := Lib.hid (num_yes he hok.1 hok.2)
      have hlp := look_pos hok.1 (by rw [← H7.out]; exact HO.out.drop _)
      have HCL : Hid (∀ (W : World), Sl W w.heap.size 1 A n (bs.map (.int .u8)) → W.cell? ⟨w.heap.size, 0, none⟩ = some (.int .u64 most) → Bk W (w.heap.size + 1) 56 [.int .u64 0] → Calls Tryd.prog 62 #[.slice A' (n - k) (c - k), .pointer (some ⟨w.heap.size, 0, none⟩), .pointer (some ⟨w.heap.size + 1, 0, none⟩)] W fun e w' => e = .returned (.tuple #[.int .i64 ((lookB s.rest).2.1 : Int), .int .i64 0]) ∧ W.setCell ⟨w.heap.size + 1, 0, none⟩ (.int .u64 (lookB s.rest).1) = w') := by
        intro W hW hm hn
        have := num1_ok W w.heap.size A' (n - k) (c - k) (bs.drop k) (HO.out.drop k) (HSC.out W hW) w.heap.size (w.heap.size + 1) most hm hn (by rw [H7.out]; exact hok.1) (by rw [H7.out]; exact hok.2)
        rw [H7.out] at this
        exact this
      have hlr : s.rest.length = n - k := by rw [← H7.out, List.length_drop, HS.out.length]
      obtain ⟨S, hS⟩ : ∃ S, (lookB s.rest).2.1 = S := ⟨_, rfl⟩
      obtain ⟨V, hV⟩ : ∃ V, (lookB s.rest).1 = V := ⟨_, rfl⟩
      rw [hS, hV] at HCL HNB
      rw [hS, hlr] at hlp
      have hSn : k + S ≤ n := by omega
      have hks : IntKind.i64.wrap ((k : Int) + S) = (k : Int) + S := IntWalk.i64_in _ (by omega)
      have HST : Hid (((w1.setCell ⟨w.heap.size + 1, 0, none⟩ (.int .u64 V)).drew).cell? ⟨g, 0, none⟩ = some (.slice A n c) ∧ ((w1.setCell ⟨w.heap.size + 1, 0, none⟩ (.int .u64 V)).drew).cell? ⟨g, 1, none⟩ = some (.int .i64 (k : Int))) := by
        obtain ⟨x0, x1, _⟩ := rd_cells (HK.out.far (p := ⟨w.heap.size + 1, 0, none⟩) (show g ≠ w.heap.size + 1 by omega) (.int .u64 V)).drew
        exact ⟨x0, x1⟩
      clear he hok hS hV hlp hlr
      go_enter Tryd.func36, Tryd.ntmps36
      go_upto_region 2 with fail
      rw [HW.out]
      go_wp2
      go_region_held3 (fun w' => w'.cell? ⟨g, 0, none⟩ = some (.slice A n c) ∧ w'.cell? ⟨g, 1, none⟩ = some (.int .i64 (k : Int))) (first | (with_reducible exact hS1) | go_keep)
        (first
          | (go_at_call 62; refine (HCL.out _ HS.out.drew cm HN.out.drew).mono ?_; rintro e w2 ⟨rfl, rfl⟩; have hS1 := HST.out))
      go_wp2
      go_end0
      go_wp2
      go_ret
      refine ⟨by rw [HNB.out]; rfl, ?_, only_set (only_drew (only_new (only_below (only_refl' w _) HB.out) (Nat.le_succ _) _)) _ _⟩
      rw [HNB.out]
      have hks2 : (k : Int) + S = ((k + S : Nat) : Int) := by omega
      refine ⟨A, n, c, bs, k + S, ?_, ?_, HO.out, hSn, h5, h6, by rw [← H7.out, List.drop_drop], H8.out⟩
      · rw [← hks2, ← HE.out]
        exact Bk.set_ (HK.out.far (p := ⟨w.heap.size + 1, 0, none⟩) (show g ≠ w.heap.size + 1 by omega) (.int .u64 V)).drew 1 _
      · exact sl_apart ((HS.out.setCell (Nat.le_succ _) _).more (by simpa [World.setCell] using HB.out.size)) (only_set (only_drew (only_refl' _ _)) 1 _) (fun ad e => (H8.out ad e).1)
    · obtain ⟨E, hE, HNB, HCL⟩ : ∃ E : Int, E ≠ 0 ∧ Hid (numR s most = (⟨s.rest, E⟩, 0)) ∧ Hid (∀ (W : World), Sl W w.heap.size 1 A n (bs.map (.int .u8)) → W.cell? ⟨w.heap.size, 0, none⟩ = some (.int .u64 most) → Calls Tryd.prog 62 #[.slice A' (n - k) (c - k), .pointer (some ⟨w.heap.size, 0, none⟩), .pointer (some ⟨w.heap.size + 1, 0, none⟩)] W fun e w' => e = .returned (.tuple #[.int .i64 0, .int .i64 E]) ∧ W = w') := by
        by_cases hl : (lookB s.rest).2.2 = 0
        · have hr : most < (lookB s.rest).1 := Int.not_le.1 fun h => hok ⟨hl, h⟩
          refine ⟨2, by decide, num_range he hl hr, fun W hW hm => ?_⟩
          exact num1_range W w.heap.size A' (n - k) (c - k) (bs.drop k) (HO.out.drop k) (HSC.out W hW) w.heap.size (w.heap.size + 1) most hm (by rw [H7.out]; exact hl) (by rw [H7.out]; exact hr)
        · refine ⟨_, hl, num_look he hl most, fun W hW hm => ?_⟩
          have := num1_err W w.heap.size A' (n - k) (c - k) (bs.drop k) (HO.out.drop k) (HSC.out W hW) w.heap.size (w.heap.size + 1) (by rw [H7.out]; exact hl)
          rw [H7.out] at this
          exact this
      have hE1 : (E != 0) = true := by simp [hE]
      clear he hE hok
      go_enter Tryd.func36, Tryd.ntmps36
      go_upto_region 2 with fail
      rw [HW.out]
      go_wp2
      go_region_held3 (fun w' => w'.cell? ⟨g, 0, none⟩ = some (.slice A n c) ∧ w'.cell? ⟨g, 1, none⟩ = some (.int .i64 (k : Int))) (first | go_keep)
        (first
          | (go_at_call 62; refine (HCL.out _ HS.out.drew cm).mono ?_; rintro e w2 ⟨rfl, rfl⟩))
      go_wp2
      refine bodyPost_ret (results_none rfl _ _ _) rfl ?_
      go_wp2
      go_ret
      refine ⟨by rw [HNB.out]; rfl, ?_, only_set (only_drew (only_below (only_refl' w _) HB.out)) _ _⟩
      rw [HNB.out]
      exact ⟨A, n, c, bs, k, Bk.set_ HK.out.drew 2 _, sl_apart (HS.out.more HB.out.size) (only_set (only_drew (only_refl' w1 _)) 2 (.int .i64 E)) (fun ad e => (H8.out ad e).1), HO.out, h4, h5, h6, H7.out, H8.out⟩
  · have HNB := Lib.hid (num_bad he most)
    have he1 : (s.err != 0) = true := by simp [he]
    go_enter Tryd.func36, Tryd.ntmps36
    go_upto_region 2 with fail
    rw [HW.out]
    go_wp2
    refine bodyPost_ret (results_none rfl _ _ _) rfl ?_
    go_wp2
    go_ret
    refine ⟨by rw [HNB.out]; rfl, ?_, only_below (only_refl' w _) HB.out⟩
    rw [HNB.out]
    exact ⟨A, n, c, bs, k, HK.out, HS.out.more HB.out.size, HO.out, h4, h5, h6, H7.out, H8.out⟩
end Go.Proofs.YtakfdlokgddaoaaDoor

/-! Readers of bytes: the walk of Bytes, with the function that it hands to read. -/
namespace Go.Proofs.YtakfdlokgddaoaaDoor
open Go.RowKit

theorem some_bad {s : Rd} (h : s.err ≠ 0) (most : Int) : someR s most = (s, []) := by unfold someR; rw [if_neg h]
theorem some_look {s : Rd} (h : s.err = 0) (he : (lookB s.rest).2.2 ≠ 0) (most : Int) : someR s most = (⟨s.rest, (lookB s.rest).2.2⟩, []) := by unfold someR; rw [if_pos h, if_neg he]
theorem some_range {s : Rd} (h : s.err = 0) (he : (lookB s.rest).2.2 = 0) {most : Int} (hr : most < (lookB s.rest).1) : someR s most = (⟨s.rest, 2⟩, []) := by unfold someR; rw [if_pos h, if_pos he, if_neg (by omega)]
theorem some_short {s : Rd} (h : s.err = 0) (he : (lookB s.rest).2.2 = 0) {most : Int} (hr : (lookB s.rest).1 ≤ most) (hl : ((s.rest.length - (lookB s.rest).2.1 : Nat) : Int) < (lookB s.rest).1) : someR s most = (⟨s.rest, 4⟩, []) := by
  unfold someR; rw [if_pos h, if_pos he, if_pos hr, if_neg (by omega)]
theorem some_yes {s : Rd} (h : s.err = 0) (he : (lookB s.rest).2.2 = 0) {most : Int} (hr : (lookB s.rest).1 ≤ most) (hl : (lookB s.rest).1 ≤ ((s.rest.length - (lookB s.rest).2.1 : Nat) : Int)) :
    someR s most = (⟨(s.rest.drop (lookB s.rest).2.1).drop (lookB s.rest).1.toNat, 0⟩, (s.rest.drop (lookB s.rest).2.1).take (lookB s.rest).1.toNat) := by
  unfold someR; rw [if_pos h, if_pos he, if_pos hr, if_pos hl]

theorem some1_err (w : World) (B : Nat) (A : Option Addr) (n c : Nat) (bs : List Int) (ho : ByOk bs) (hs : Sl w B 1 A n (bs.map (.int .u8))) (pm pn : Nat) (he : (lookB bs).2.2 ≠ 0) :
    Calls Tryd.prog 60 #[.slice A n c, .pointer (some ⟨pm, 0, none⟩), .pointer (some ⟨pn, 0, none⟩)] w fun e w' => e = .returned (.tuple #[.int .i64 0, .int .i64 (lookB bs).2.2]) ∧ w = w' := by
  have HS := Lib.hid hs; have HO := Lib.hid ho
  obtain ⟨E, hE⟩ : ∃ E, (lookB bs).2.2 = E := ⟨_, rfl⟩
  have HE := Lib.hid hE
  rw [hE] at he ⊢
  have he1 : (E != 0) = true := by simp [he]
  clear hs ho hE he
  go_enter Tryd.func60, Tryd.ntmps60
  go_wp2_with fail
  refine (look_any _ B A n c bs HO.out HS.out).mono ?_
  rintro e w1 ⟨rfl, rfl⟩
  rw [HE.out]
  go_wp2_with fail
  go_ret2
  exact ⟨rfl, rfl⟩
theorem some1_range (w : World) (B : Nat) (A : Option Addr) (n c : Nat) (bs : List Int) (ho : ByOk bs) (hs : Sl w B 1 A n (bs.map (.int .u8))) (pm pn : Nat) (most : Int) (hm : w.cell? ⟨pm, 0, none⟩ = some (.int .u64 most)) (he : (lookB bs).2.2 = 0) (hr : most < (lookB bs).1) :
    Calls Tryd.prog 60 #[.slice A n c, .pointer (some ⟨pm, 0, none⟩), .pointer (some ⟨pn, 0, none⟩)] w fun e w' => e = .returned (.tuple #[.int .i64 0, .int .i64 2]) ∧ w = w' := by
  have HS := Lib.hid hs; have HO := Lib.hid ho
  obtain ⟨V, hV⟩ : ∃ V, (lookB bs).1 = V := ⟨_, rfl⟩
  have HE := Lib.hid he; have HV := Lib.hid hV
  rw [hV] at hr
  clear hs ho hV he
  go_enter Tryd.func60, Tryd.ntmps60
  go_wp2_with fail
  refine (look_any _ B A n c bs HO.out HS.out).mono ?_
  rintro e w1 ⟨rfl, rfl⟩
  rw [HE.out, HV.out]
  go_wp2_with fail
  go_ret2
  exact ⟨rfl, rfl⟩
theorem some1_short (w : World) (B : Nat) (A : Option Addr) (n c : Nat) (bs : List Int) (ho : ByOk bs) (hs : Sl w B 1 A n (bs.map (.int .u8))) (pm pn : Nat) (most : Int) (hm : w.cell? ⟨pm, 0, none⟩ = some (.int .u64 most)) (he : (lookB bs).2.2 = 0) (hr : (lookB bs).1 ≤ most)
    (hl : ((bs.length - (lookB bs).2.1 : Nat) : Int) < (lookB bs).1) (hn : n ≤ 1073741824) :
    Calls Tryd.prog 60 #[.slice A n c, .pointer (some ⟨pm, 0, none⟩), .pointer (some ⟨pn, 0, none⟩)] w fun e w' => e = .returned (.tuple #[.int .i64 0, .int .i64 4]) ∧ w = w' := by
  have hlen := hs.length
  have hlp := look_pos he ho
  have HS := Lib.hid hs; have HO := Lib.hid ho
  obtain ⟨V, hV⟩ : ∃ V, (lookB bs).1 = V := ⟨_, rfl⟩
  obtain ⟨S, hS⟩ : ∃ S, (lookB bs).2.1 = S := ⟨_, rfl⟩
  have HE := Lib.hid he; have HV := Lib.hid hV; have HSS := Lib.hid hS
  rw [hV] at hr hl
  rw [hS, hlen] at hl hlp
  obtain ⟨_, _, hs1, hsn⟩ := hlp
  have hr1 : decide (most < V) = false := by simp; omega
  have hsub : IntKind.i64.wrap ((n : Int) - S) = ((n - S : Nat) : Int) := by rw [IntWalk.i64_in _ (by omega)]; omega
  have hsub2 : IntKind.u64.wrap ((n - S : Nat) : Int) = ((n - S : Nat) : Int) := by rw [IntKind.wrap_u64]; omega
  clear hs ho hV hS he hlen
  go_enter Tryd.func60, Tryd.ntmps60
  go_wp2_with fail
  refine (look_any _ B A n c bs HO.out HS.out).mono ?_
  rintro e w1 ⟨rfl, rfl⟩
  rw [HE.out, HV.out, HSS.out]
  have hx : (n : Int) - S = ((n - S : Nat) : Int) := by omega
  go_wp2_with fail
  go_ret2
  exact ⟨rfl, rfl⟩

theorem run_cut2 (t : TypeId) (A : Option Addr) (n c k m : Nat) (hk : k ≤ m) (hm : m ≤ n) (hc : n ≤ c) (ht : Tryd.prog.underlying t = some (.slice 5)) (W : World) :
    (Instr.slice t (.slice A n c) (some (.int .i64 (k : Int))) (some (.int .i64 (m : Int))) none).run Tryd.prog W = .ok (.slice (if c = k then A else Option.map (fun x => x.add k) A) (m - k) (c - k)) W := by
  obtain ⟨i0, hi, hi0, hi1, hi2⟩ := info_parts Tryd.infoU8
  have he : Tryd.prog.elem t = 5 := by simp [Program.elem, ht]
  rw [run_slice_lh (P := Tryd.prog) (w := W) t A n c (by rw [he]; exact ht) .i64 .i64 k m (by omega) (by omega) (by omega)]
  simp [he, sizeOf, typeInfo, hi, hi1, sliced]

/-- The world behind a copy of bytes, its slice put into a variable. -/
def RetS (po : Nat) (out : List Int) (s : Int) (w : World) (e : Ending) (w' : World) : Prop :=
  e = .returned (.tuple #[.int .i64 s, .int .i64 0]) ∧ ∃ v w2, w2.ownsRow w.heap.size 5 1 v out.length (out.map (.int .u8)) ∧ Below w.heap.size w w2 ∧ w2.setCell ⟨po, 0, none⟩ v = w'
theorem some1_ok (w : World) (A : Option Addr) (n c : Nat) (bs : List Int) (ho : ByOk bs) (hs : Sl w w.heap.size 1 A n (bs.map (.int .u8))) (hc : n ≤ c) (pm po : Nat) (most : Int) (hm : w.cell? ⟨pm, 0, none⟩ = some (.int .u64 most)) (hpo : Bk w po 29 [.slice none 0 0]) (he : (lookB bs).2.2 = 0) (hr : (lookB bs).1 ≤ most)
    (hl : (lookB bs).1 ≤ ((bs.length - (lookB bs).2.1 : Nat) : Int)) (hn : n ≤ 1073741824) :
    Calls Tryd.prog 60 #[.slice A n c, .pointer (some ⟨pm, 0, none⟩), .pointer (some ⟨po, 0, none⟩)] w (RetS po ((bs.drop (lookB bs).2.1).take (lookB bs).1.toNat) ((lookB bs).2.1 + (lookB bs).1.toNat : Nat) w) := by
  have hlen := hs.length
  have hlp := look_pos he ho
  have HS := Lib.hid hs; have HO := Lib.hid ho; have HP := Lib.hid hpo
  obtain ⟨V, hV⟩ : ∃ V : Nat, (lookB bs).1 = (V : Int) := ⟨(lookB bs).1.toNat, by omega⟩
  obtain ⟨S, hS⟩ : ∃ S, (lookB bs).2.1 = S := ⟨_, rfl⟩
  have HE := Lib.hid he; have HV := Lib.hid hV; have HSS := Lib.hid hS
  rw [hV, hS, Int.toNat_natCast]
  rw [hV] at hr hl
  rw [hS, hlen] at hl
  rw [hS, hlen] at hlp
  obtain ⟨_, _, hs1, hsn⟩ := hlp
  have hVn : S + V ≤ n := by omega
  obtain ⟨A', hA'⟩ : ∃ A', (if c = S then A else Option.map (fun x => x.add S) A) = A' := ⟨_, rfl⟩
  have hcut := run_cut2 29 A n c S (S + V) (by omega) hVn hc Tryd.underlying29
  rw [hA', show S + V - S = V by omega, show ((S + V : Nat) : Int) = (S : Int) + V by omega] at hcut
  have HSL : Hid (Sl w w.heap.size 1 A' V (((bs.drop S).take V).map (.int .u8))) := by
    have := (sl_cut hs hc hsn).front (m := V) (by omega)
    rw [hA'] at this; exact this
  clear hA'
  have hol : ((bs.drop S).take V).length = V := by rw [List.length_take, List.length_drop, hlen]; omega
  obtain ⟨out, hout⟩ : ∃ out, (bs.drop S).take V = out := ⟨_, rfl⟩
  rw [hout] at HSL hol ⊢
  have HOL := Lib.hid hol
  clear hout hol
  have hr1 : decide (most < (V : Int)) = false := by simp; omega
  have hx : (n : Int) - S = ((n - S : Nat) : Int) := by omega
  have hVi : (V : Int) ≤ ((n - S : Nat) : Int) := by omega
  have hVi2 : decide (((n - S : Nat) : Int) < (V : Int)) = false := by simp; omega
  have hVi3 : decide ((n - S : Nat) < V) = false := by simp; omega
  have hsum : IntKind.i64.wrap ((S : Int) + V) = (S : Int) + V := IntWalk.i64_in _ (by omega)
  clear hs ho hV hS he hlen hpo
  go_enter Tryd.func60, Tryd.ntmps60
  go_wp2_with fail
  refine (look_any _ w.heap.size A n c bs HO.out HS.out).mono ?_
  rintro e w1 ⟨rfl, rfl⟩
  rw [HE.out, HV.out, HSS.out]
  go_wp2_with fail
  refine (fresh_any _ A' V (c - S) out HSL.out 0 (by omega) (by omega)).mono ?_
  rintro e w2 ⟨v, rfl, hown, hb⟩
  obtain ⟨A2, c2, rfl⟩ := own_form hown
  have HP2 := Lib.hid (HP.out.later hb)
  have hc2 := one_cell HP2.out
  have hf2 := HP2.out.frozen 0
  have hl2 := HP2.out.lt
  have HOW := Lib.hid hown; have HB := Lib.hid hb
  clear hown hb
  go_wp2_with fail
  go_ret2
  refine ⟨?_, _, w2, HOW.out, HB.out, rfl⟩
  exact congrArg (fun z : Int => Ending.returned (.tuple #[.int .i64 z, .int .i64 0])) (by omega)

theorem two_rd {w : World} {g : Nat} {a b c : Value} (h : Bk w g 118 [a, b, c]) : w.cell? ⟨g, 0, none⟩ = some a ∧ w.cell? ⟨g, 1, none⟩ = some b := ⟨by rw [h.cell]; rfl, by rw [h.cell]; rfl⟩
/-- What a read of bytes leaves. -/
def RetY (g L : Nat) (p : Rd × List Int) (w : World) (e : Ending) (w' : World) : Prop :=
  ∃ v, e = .returned v ∧ w'.ownsRow w.heap.size 5 1 v p.2.length (p.2.map (.int .u8)) ∧ RdAt w' g L p.1 ∧ w.grownBy w' (some g)
set_option maxRecDepth 20000 in
theorem rdBytes_any (w : World) (g : Nat) {L : Nat} (s : Rd) (h : RdAt w g L s) (most : Int) (hm0 : 0 ≤ most) (hm1 : most ≤ 1073741824) : Calls Tryd.prog 33 #[.pointer (some ⟨g, 0, none⟩), .int .i64 most] w (RetY g L (someR s most) w) := by
  obtain ⟨A, n, c, bs, k, h1, h2, h3, h4, h5, h6, h7, h8⟩ := h
  have hgl := h1.lt
  obtain ⟨w1, hw1⟩ : ∃ w1, (w.alloc (.cells #[.slice none 0 0] 29)).alloc (.cells #[.int .u64 most] 56) = w1 := ⟨_, rfl⟩
  have hb1 : Below w.heap.size w w1 := hw1 ▸ (below_new w _).alloc (by simp) _
  have k1 : Bk w1 g 118 [.slice A n c, .int .i64 (k : Int), .int .i64 s.err] := h1.later hb1
  have ko : Bk w1 w.heap.size 29 [.slice none 0 0] := hw1 ▸ (Bk.new w _ #[.slice none 0 0]).alloc _
  have km : Bk w1 (w.heap.size + 1) 56 [.int .u64 most] := hw1 ▸ Bk.at_ _ _ #[.int .u64 most] (by simp) rfl
  have hs1 : Sl w1 w1.heap.size 1 A n (bs.map (.int .u8)) := h2.later hb1
  have hmf : ∀ (fn : Fn) (first cap : Array Value) (w : World), (Instr.makeFunc fn first cap).run Tryd.prog w = .ok (.func fn first cap) w := fun _ _ _ _ => rfl
  have HW := Lib.hid hw1; have HB := Lib.hid hb1; have HK := Lib.hid k1; have HM := Lib.hid km; have HN := Lib.hid ko; have HS := Lib.hid hs1; have HO := Lib.hid h3; have H7 := Lib.hid h7; have H8 := Lib.hid h8; have HS0 := Lib.hid (h2.below hb1)
  obtain ⟨c0, c1, c2⟩ := rd_cells k1
  have cm := one_cell km
  have co := one_cell ko
  clear hw1 hb1 k1 km ko hs1 h1 h2 h3 h7 h8
  have hkw : IntKind.i64.wrap (k : Int) = k := IntWalk.i64_in _ (by omega)
  have hk0 : (0 : Int) ≤ k := by omega
  have hkn : (k : Int) ≤ n := by omega
  obtain ⟨f0, f1, f2⟩ := rd_frozen HK.out
  have fo := HN.out.frozen 0
  have hz1 : w1.heap.size = w.heap.size + 1 + 1 := by rw [← HW.out]; simp
  have HZ := Lib.hid hz1
  have hgl1 : g < w1.heap.size := HK.out.lt
  have hmx : IntKind.u64.wrap most = most := by rw [IntKind.wrap_u64]; omega
  have hm2 : decide (most < 0) = false := by simp; omega
  clear hz1
  obtain ⟨A', hA'⟩ : ∃ A', (if c = k then A else Option.map (fun x => x.add k) A) = A' := ⟨_, rfl⟩
  have hcut := run_cut 29 A n c k h4
  rw [hA'] at hcut
  have HSC : Hid (∀ (W : World), Sl W W.heap.size 1 A n (bs.map (.int .u8)) → Sl W W.heap.size 1 A' (n - k) ((bs.drop k).map (.int .u8))) := fun W hW => by
    have := sl_cut hW h5 h4
    rw [hA'] at this; exact this
  clear hA'
  have hlr : s.rest.length = n - k := by rw [← H7.out, List.length_drop, HS.out.length]
  by_cases he : s.err = 0
  · have he1 : (s.err != 0) = false := by simp [he]
    have HE := Lib.hid he
    by_cases hok : (lookB s.rest).2.2 = 0 ∧ (lookB s.rest).1 ≤ most ∧ (lookB s.rest).1 ≤ ((s.rest.length - (lookB s.rest).2.1 : Nat) : Int)
    · have HNB := Lib.hid (some_yes he hok.1 hok.2.1 hok.2.2)
      have hlp := look_pos hok.1 (by rw [← H7.out]; exact HO.out.drop _)
      have HCL : Hid (∀ (W : World), Sl W W.heap.size 1 A n (bs.map (.int .u8)) → W.cell? ⟨w.heap.size + 1, 0, none⟩ = some (.int .u64 most) → Bk W w.heap.size 29 [.slice none 0 0] → Calls Tryd.prog 60 #[.slice A' (n - k) (c - k), .pointer (some ⟨w.heap.size + 1, 0, none⟩), .pointer (some ⟨w.heap.size, 0, none⟩)] W (RetS w.heap.size ((s.rest.drop (lookB s.rest).2.1).take (lookB s.rest).1.toNat) ((lookB s.rest).2.1 + (lookB s.rest).1.toNat : Nat) W)) := by
        intro W hW hm hn
        have := some1_ok W A' (n - k) (c - k) (bs.drop k) (HO.out.drop k) (HSC.out W hW) (by omega) (w.heap.size + 1) w.heap.size most hm hn (by rw [H7.out]; exact hok.1) (by rw [H7.out]; exact hok.2.1) (by rw [H7.out]; exact hok.2.2) (by omega)
        rw [H7.out] at this
        exact this
      have hl2 := hok.2.2
      obtain ⟨V, hV⟩ : ∃ V, (lookB s.rest).1 = V := ⟨_, rfl⟩
      obtain ⟨S, hS⟩ : ∃ S, (lookB s.rest).2.1 = S := ⟨_, rfl⟩
      rw [hS, hV] at HCL HNB
      rw [hS, hV, hlr] at hl2
      rw [hS, hV, hlr] at hlp
      obtain ⟨T, hT⟩ : ∃ T, S + V.toNat = T := ⟨_, rfl⟩
      rw [hT] at HCL
      have HT := Lib.hid hT
      have hTn : k + T ≤ n := by omega
      have hks : IntKind.i64.wrap ((k : Int) + T) = (k : Int) + T := IntWalk.i64_in _ (by omega)
      obtain ⟨out, hout⟩ : ∃ out, (s.rest.drop S).take V.toNat = out := ⟨_, rfl⟩
      rw [hout] at HCL HNB
      clear he hok hS hV hlp hlr hl2 hT hout
      go_enter Tryd.func33, Tryd.ntmps33
      go_upto_region 3 with fail
      rw [HW.out]
      go_wp2
      go_region_held3 (fun w' => w'.cell? ⟨g, 0, none⟩ = some (.slice A n c) ∧ w'.cell? ⟨g, 1, none⟩ = some (.int .i64 (k : Int))) (first | (with_reducible exact hS1) | go_keep)
        (first
          | (go_at_call 60; refine (HCL.out _ HS.out.drew cm HN.out.drew).mono ?_; rintro e w2 ⟨rfl, v, w3, hown, hb3, rfl⟩; obtain ⟨A3, c3, rfl⟩ := own_form hown; have HK3 := Lib.hid ((HK.out.drew.later hb3).far (p := ⟨w.heap.size, 0, none⟩) (show g ≠ w.heap.size by omega) (.slice A3 out.length c3)); have HN3 := Lib.hid ((HN.out.drew.later hb3).set_ 0 (.slice A3 out.length c3)); have hS1 := two_rd HK3.out; have HOW := Lib.hid hown; have HB3 := Lib.hid hb3; clear hown hb3))
      obtain ⟨x0, x1, x2⟩ := rd_cells HK3.out
      obtain ⟨y0, y1, y2⟩ := rd_frozen HK3.out
      have yo := one_cell HN3.out
      have hlg := HK3.out.lt
      clear hS1
      go_wp2
      go_end0
      go_wp2
      go_ret
      have hB1 : w.heap.size ≤ w1.heap.size := HB.out.size
      have hz := HZ.out
      have hown : (((w3.setCell ⟨w.heap.size, 0, none⟩ (.slice A3 out.length c3)).setCell ⟨g, 1, none⟩ (.int .i64 ((k : Int) + T)))).ownsRow w1.heap.size 5 1 (.slice A3 out.length c3) out.length (out.map (.int .u8)) :=
        ownsRow_setCell_below (ownsRow_setCell_below HOW.out (show w.heap.size < w1.heap.size by omega) _) (show g < w1.heap.size by omega) _
      have hgr3 : w.grownBy w3 (some g) := only_below (only_drew (only_below (only_refl' w _) HB.out)) HB3.out
      have hgrown : w.grownBy ((w3.setCell ⟨w.heap.size, 0, none⟩ (.slice A3 out.length c3)).setCell ⟨g, 1, none⟩ (.int .i64 ((k : Int) + T))) (some g) := only_set (only_new hgr3 (Nat.le_refl _) _) 1 _
      have hsl : Sl w3 w.heap.size 1 A n (bs.map (.int .u8)) := HS0.out.drew.below (HB3.out.mono hB1)
      refine ⟨_, rfl, ?_, ?_, hgrown⟩
      · rw [HNB.out]; exact own_base hown hB1
      rw [HNB.out]
      have hks2 : (k : Int) + T = ((k + T : Nat) : Int) := by omega
      refine ⟨A, n, c, bs, k + T, ?_, ?_, HO.out, hTn, h5, h6, by rw [← H7.out, List.drop_drop, List.drop_drop, ← HT.out], H8.out⟩
      · rw [← hks2, ← HE.out]
        exact Bk.set_ HK3.out 1 _
      · exact sl_apart ((hsl.setCell (p := ⟨w.heap.size, 0, none⟩) (Nat.le_refl _) (.slice A3 out.length c3)).more (by have := HB3.out.size; simp [World.setCell] at this ⊢; omega)) (only_set (only_refl' _ _) 1 _) (fun ad e => (H8.out ad e).1)
    · obtain ⟨E, hE, HNB, HCL⟩ : ∃ E : Int, E ≠ 0 ∧ Hid (someR s most = (⟨s.rest, E⟩, [])) ∧ Hid (∀ (W : World), Sl W W.heap.size 1 A n (bs.map (.int .u8)) → W.cell? ⟨w.heap.size + 1, 0, none⟩ = some (.int .u64 most) → Calls Tryd.prog 60 #[.slice A' (n - k) (c - k), .pointer (some ⟨w.heap.size + 1, 0, none⟩), .pointer (some ⟨w.heap.size, 0, none⟩)] W fun e w' => e = .returned (.tuple #[.int .i64 0, .int .i64 E]) ∧ W = w') := by
        by_cases hl : (lookB s.rest).2.2 = 0
        · by_cases hr : (lookB s.rest).1 ≤ most
          · have hsh : ((s.rest.length - (lookB s.rest).2.1 : Nat) : Int) < (lookB s.rest).1 := Int.not_le.1 fun h => hok ⟨hl, hr, h⟩
            refine ⟨4, by decide, some_short he hl hr hsh, fun W hW hm => ?_⟩
            exact some1_short W W.heap.size A' (n - k) (c - k) (bs.drop k) (HO.out.drop k) (HSC.out W hW) (w.heap.size + 1) w.heap.size most hm (by rw [H7.out]; exact hl) (by rw [H7.out]; exact hr) (by rw [H7.out]; exact hsh) (by omega)
          · refine ⟨2, by decide, some_range he hl (by omega), fun W hW hm => ?_⟩
            exact some1_range W W.heap.size A' (n - k) (c - k) (bs.drop k) (HO.out.drop k) (HSC.out W hW) (w.heap.size + 1) w.heap.size most hm (by rw [H7.out]; exact hl) (by rw [H7.out]; omega)
        · refine ⟨_, hl, some_look he hl most, fun W hW hm => ?_⟩
          have := some1_err W W.heap.size A' (n - k) (c - k) (bs.drop k) (HO.out.drop k) (HSC.out W hW) (w.heap.size + 1) w.heap.size (by rw [H7.out]; exact hl)
          rw [H7.out] at this
          exact this
      have hE1 : (E != 0) = true := by simp [hE]
      clear he hE hok
      go_enter Tryd.func33, Tryd.ntmps33
      go_upto_region 3 with fail
      rw [HW.out]
      go_wp2
      go_region_held3 (fun w' => w'.cell? ⟨g, 0, none⟩ = some (.slice A n c) ∧ w'.cell? ⟨g, 1, none⟩ = some (.int .i64 (k : Int))) (first | go_keep)
        (first
          | (go_at_call 60; refine (HCL.out _ HS.out.drew cm).mono ?_; rintro e w2 ⟨rfl, rfl⟩))
      go_wp2
      refine bodyPost_ret (results_none rfl _ _ _) rfl ?_
      go_wp2
      go_ret
      refine ⟨.slice none 0 0, rfl, ?_, ?_, only_set (only_drew (only_below (only_refl' w _) HB.out)) 2 (.int .i64 E)⟩
      · rw [HNB.out]; exact World.ownsRow_nil _ _ _ _
      rw [HNB.out]
      exact ⟨A, n, c, bs, k, Bk.set_ HK.out.drew 2 _, sl_apart HS.out (only_set (only_drew (only_refl' w1 _)) 2 (.int .i64 E)) (fun ad e => (H8.out ad e).1), HO.out, h4, h5, h6, H7.out, H8.out⟩
  · have HNB := Lib.hid (some_bad he most)
    have he1 : (s.err != 0) = true := by simp [he]
    go_enter Tryd.func33, Tryd.ntmps33
    go_upto_region 3 with fail
    rw [HW.out]
    go_wp2
    refine bodyPost_ret (results_none rfl _ _ _) rfl ?_
    go_wp2
    go_ret
    refine ⟨.slice none 0 0, rfl, ?_, ?_, only_below (only_refl' w _) HB.out⟩
    · rw [HNB.out]; exact World.ownsRow_nil _ _ _ _
    rw [HNB.out]
    exact ⟨A, n, c, bs, k, HK.out, HS.out, HO.out, h4, h5, h6, H7.out, H8.out⟩
end Go.Proofs.YtakfdlokgddaoaaDoor
