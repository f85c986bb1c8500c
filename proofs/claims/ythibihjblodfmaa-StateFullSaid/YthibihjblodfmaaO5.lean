/- Readers of bytes: what they read, and the walks of NewReader, Err, Left, End. -/
import Derived.Test.YthibihjblodfmaaO4
namespace Go.Proofs.Ythibihjblodfmaa
open Go.RowKit

/-- A reader: what is left, the first error. -/
structure Rd where
  rest : List Int
  err : Int
/-- A number, not above the most. -/
def numR (s : Rd) (most : Int) : Rd × Int :=
  if s.err = 0 then
    if (lookB s.rest).2.2 = 0 then
      if (lookB s.rest).1 ≤ most then (⟨s.rest.drop (lookB s.rest).2.1, 0⟩, (lookB s.rest).1) else (⟨s.rest, 2⟩, 0)
    else (⟨s.rest, (lookB s.rest).2.2⟩, 0)
  else (s, 0)
/-- At most so many bytes. -/
def someR (s : Rd) (most : Int) : Rd × List Int :=
  if s.err = 0 then
    if (lookB s.rest).2.2 = 0 then
      if (lookB s.rest).1 ≤ most then
        if (lookB s.rest).1 ≤ ((s.rest.length - (lookB s.rest).2.1 : Nat) : Int) then (⟨(s.rest.drop (lookB s.rest).2.1).drop (lookB s.rest).1.toNat, 0⟩, (s.rest.drop (lookB s.rest).2.1).take (lookB s.rest).1.toNat)
        else (⟨s.rest, 4⟩, [])
      else (⟨s.rest, 2⟩, [])
    else (⟨s.rest, (lookB s.rest).2.2⟩, [])
  else (s, [])
/-- That nothing is left. -/
def endR (s : Rd) : Int := if s.err = 0 then (if s.rest = [] then 0 else 5) else s.err

theorem look_pos {bs : List Int} (h : (lookB bs).2.2 = 0) (ho : ByOk bs) : 0 ≤ (lookB bs).1 ∧ (lookB bs).1 < 18446744073709551616 ∧ 1 ≤ (lookB bs).2.1 ∧ (lookB bs).2.1 ≤ bs.length := by
  obtain ⟨v, s, e⟩ : ∃ v s, lookB bs = (v, s, 0) := ⟨(lookB bs).1, (lookB bs).2.1, by rw [← h]⟩
  obtain ⟨h1, h2, h3, h4, _⟩ := look_back bs v s ho e
  rw [e]; exact ⟨h1, h2, h3, h4⟩
theorem look_err (bs : List Int) : (lookB bs).2.2 = 0 ∨ (lookB bs).2.2 = 3 ∨ (lookB bs).2.2 = 4 := by
  unfold lookB; simp only; split
  · simp
  · split <;> simp

/-- The slice behind its first k elements. -/
theorem sl_cut {w : World} {B n c k : Nat} {A : Option Addr} {f : Int → Value} {bs : List Int} (h : Sl w B 1 A n (bs.map f)) (hc : n ≤ c) (hk : k ≤ n) :
    Sl w B 1 (if c = k then A else Option.map (fun x => x.add k) A) (n - k) ((bs.drop k).map f) := by
  have hl := h.length
  refine ⟨by simp [hl], by have := h.le; omega, fun hp => ?_⟩
  obtain ⟨ad, rfl, hb, hcc⟩ := h.mem (by omega)
  rw [if_neg (by omega)]
  refine ⟨ad.add k, rfl, by rw [add_block]; exact hb, fun j u hu => ?_⟩
  rw [add_add']
  refine hcc _ _ ?_
  rw [List.getElem?_map, List.getElem?_drop] at hu
  rw [List.getElem?_map]; exact hu
theorem cut_block {A : Option Addr} {c k g : Nat} (h : ∀ ad, A = some ad → ad.block ≠ g) : ∀ ad, (if c = k then A else Option.map (fun x => x.add k) A) = some ad → ad.block ≠ g := by
  intro ad he
  split at he
  · exact h ad he
  · cases A with
    | none => simp at he
    | some a => simp at he; subst he; rw [add_block]; exact h a rfl
theorem Sl.front {w : World} {B n m : Nat} {A : Option Addr} {f : Int → Value} {bs : List Int} (h : Sl w B 1 A n (bs.map f)) (hm : m ≤ n) : Sl w B 1 A m ((bs.take m).map f) := by
  have hl := h.length
  refine ⟨by simp [hl]; omega, by have := h.le; omega, fun hp => ?_⟩
  obtain ⟨ad, rfl, hb, hcc⟩ := h.mem (by omega)
  refine ⟨ad, rfl, hb, fun j u hu => hcc j u ?_⟩
  rw [List.getElem?_map, List.getElem?_take] at hu
  split at hu
  · rw [List.getElem?_map]; exact hu
  · simp at hu

/-- A reader in memory: block g. -/
def RdAt (w : World) (g L : Nat) (s : Rd) : Prop :=
  ∃ (A : Option Addr) (n c : Nat) (bs : List Int) (at_ : Nat), Bk w g 171 [.slice A n c, .int .i64 (at_ : Int), .int .i64 s.err] ∧ Sl w w.heap.size 1 A n (bs.map (.int .u8)) ∧ ByOk bs ∧ at_ ≤ n ∧ n ≤ c ∧ n ≤ 1073741824 ∧ bs.drop at_ = s.rest ∧ ∀ ad, A = some ad → ad.block ≠ g ∧ ad.block < L
theorem RdAt.later {w w' : World} {g L : Nat} {s : Rd} (h : RdAt w g L s) (hb : Below w.heap.size w w') : RdAt w' g L s := by
  obtain ⟨A, n, c, bs, k, h1, h2, h3⟩ := h
  exact ⟨A, n, c, bs, k, h1.later hb, h2.later hb, h3⟩
theorem RdAt.only {w w' : World} {g L q : Nat} {s : Rd} (h : RdAt w g L s) (hg : w.grownBy w' (some q)) (hq : g ≠ q) (hL : L ≤ q) : RdAt w' g L s := by
  obtain ⟨A, n, c, bs, k, h1, h2, h3, h4, h5, h6, h7, h8⟩ := h
  exact ⟨A, n, c, bs, k, h1.grown hg (by intro h; injection h with h; omega), (sl_apart h2 hg (fun ad e => by have := (h8 ad e).2; omega)), h3, h4, h5, h6, h7, h8⟩
theorem RdAt.lt {w : World} {g L : Nat} {s : Rd} (h : RdAt w g L s) : g < w.heap.size := by
  obtain ⟨A, n, c, bs, k, h1, _⟩ := h
  exact h1.lt
theorem RdAt.ok {w : World} {g L : Nat} {s : Rd} (h : RdAt w g L s) : ByOk s.rest := by
  obtain ⟨A, n, c, bs, k, h1, h2, h3, _, _, _, h4, _⟩ := h
  rw [← h4]; exact h3.drop _
theorem RdAt.rest_le {w : World} {g L : Nat} {s : Rd} (h : RdAt w g L s) : s.rest.length ≤ 1073741824 := by
  obtain ⟨A, n, c, bs, k, h1, h2, h3, _, _, hn, h4, _⟩ := h
  rw [← h4, List.length_drop, h2.length]; omega

theorem rd_cells {w : World} {g : Nat} {a b c : Value} (h : Bk w g 171 [a, b, c]) :
    w.cell? ⟨g, 0, none⟩ = some a ∧ w.cell? ⟨g, 1, none⟩ = some b ∧ w.cell? ⟨g, 2, none⟩ = some c := ⟨by rw [h.cell]; rfl, by rw [h.cell]; rfl, by rw [h.cell]; rfl⟩
theorem rd_frozen {w : World} {g : Nat} {a b c : Value} (h : Bk w g 171 [a, b, c]) :
    w.frozen? ⟨g, 0, none⟩ = false ∧ w.frozen? ⟨g, 1, none⟩ = false ∧ w.frozen? ⟨g, 2, none⟩ = false := ⟨h.frozen 0, h.frozen 1, h.frozen 2⟩

set_option maxRecDepth 20000 in
theorem newReader_any (w : World) (A : Option Addr) (n c : Nat) (bs : List Int) (ho : ByOk bs) (hs : Sl w w.heap.size 1 A n (bs.map (.int .u8))) (hn : n ≤ 1073741824) :
    Calls Try.prog 69 #[.slice A n c] w fun e w' => (∃ g, e = .returned (.pointer (some ⟨g, 0, none⟩)) ∧ w.heap.size ≤ g ∧ RdAt w' g g ⟨bs, 0⟩) ∧ Below w.heap.size w w' := by
  have HS := Lib.hid hs; have HL := Lib.hid hs.length; have HO := Lib.hid ho
  clear hs ho
  go_enter Try.func69, Try.ntmps69
  go_wp2_with fail
  refine (fresh_any _ A n c bs HS.out 0 (by omega) (by omega)).mono ?_
  rintro e w1 ⟨v, rfl, hown, hb1⟩
  obtain ⟨A1, c1, rfl⟩ := own_form hown
  have HB1 := Lib.hid hb1; have HO1 := Lib.hid hown
  clear hb1 hown
  go_wp2_with fail
  go_ret
  have hb2 := HB1.out.trans ((below_new w1 (.cells #[.slice A1 bs.length c1, .int .i64 0, .int .i64 0] 171)).mono HB1.out.size)
  have hsl : Sl w1 w1.heap.size 1 A1 bs.length (bs.map (.int .u8)) := Sl.of_own HO1.out
  refine ⟨⟨w1.heap.size, rfl, HB1.out.size, A1, bs.length, c1, bs, 0, Bk.new' w1 _ _ rfl, hsl.later (below_new w1 _), HO.out, by omega, ?_, by rw [HL.out]; exact hn, rfl, fun ad e => ?_⟩, hb2⟩
  · rcases own_bk HO1.out with ⟨e, _, _⟩ | ⟨g', cap, zs, e, _, _, hnc, _⟩
    · injection e with e1 e2 e3; omega
    · injection e with e1 e2 e3; omega
  · subst e
    obtain ⟨g', cap, cur, e, _, hlt, _⟩ : ∃ (g' cap : Nat) (cur : List Value), (Value.slice (some ad) bs.length c1) = .slice (some ⟨g', 0, none⟩) bs.length cap ∧ True ∧ g' < w1.heap.size ∧ True := by
      rcases own_bk HO1.out with ⟨e, _, _⟩ | ⟨g', cap, zs, e, _, hbk, _⟩
      · injection e with e1; cases e1
      · exact ⟨g', cap, zs, e, trivial, hbk.lt, trivial⟩
    injection e with e1; injection e1 with e1
    subst e1
    exact ⟨by show g' ≠ _; omega, hlt⟩

theorem rdErr_any (w : World) (g : Nat) {L : Nat} (s : Rd) (h : RdAt w g L s) : Calls Try.prog 104 #[.pointer (some ⟨g, 0, none⟩)] w fun e w' => e = .returned (.int .i64 s.err) ∧ w = w' := by
  obtain ⟨A, n, c, bs, k, h1, _⟩ := h
  obtain ⟨c0, c1, c2⟩ := rd_cells h1
  clear h1
  go_enter Try.func104, Try.ntmps104
  go_wp2_with fail
  go_ret
  exact ⟨rfl, rfl⟩
theorem rdLeft_any (w : World) (g : Nat) {L : Nat} (s : Rd) (h : RdAt w g L s) : Calls Try.prog 119 #[.pointer (some ⟨g, 0, none⟩)] w fun e w' => e = .returned (.int .i64 (s.rest.length : Int)) ∧ ∃ q, w' = w.drewN q := by
  obtain ⟨A, n, c, bs, k, h1, h2, h3, h4, h5, h6, h7, _⟩ := h
  obtain ⟨c0, c1, c2⟩ := rd_cells h1
  have hl := h2.length
  have hr : s.rest.length = n - k := by rw [← h7, List.length_drop, hl]
  have HR := Lib.hid hr
  have hs1 : IntKind.i64.wrap ((n : Int) - k) = ((n - k : Nat) : Int) := by rw [IntWalk.i64_in _ (by omega)]; omega
  clear h1 h2 h3 h7 hl hr
  go_enter Try.func119, Try.ntmps119
  go_wp2_with fail
  go_quiet (fail)
  go_wp2_with fail
  go_ret
  exact ⟨by rw [HR.out]; rfl, _, rfl⟩
theorem rdEnd_any (w : World) (g : Nat) {L : Nat} (s : Rd) (h : RdAt w g L s) : Calls Try.prog 73 #[.pointer (some ⟨g, 0, none⟩)] w fun e w' => e = .returned (.int .i64 (endR s)) ∧ ∃ q, w' = w.drewN q := by
  have H := Lib.hid h
  clear h
  by_cases he : s.err = 0
  · have he1 : (s.err != 0) = false := by simp [he]
    by_cases hr : s.rest = []
    · have HE : Hid (endR s = 0) := by show _ = _; rw [endR, if_pos he, if_pos hr]
      have hl : s.rest.length = 0 := by rw [hr]; rfl
      have hl1 : decide ((0 : Int) < (s.rest.length : Int)) = false := by simp [hl]
      have hl2 : decide (0 < s.rest.length) = false := by simp [hl]
      have hl3 : ¬ 0 < s.rest.length := by omega
      clear hr hl he
      go_enter Try.func73, Try.ntmps73
      go_wp2_with fail
      refine (rdErr_any _ g s H.out).mono ?_
      rintro e w1 ⟨rfl, rfl⟩
      go_wp2_with fail
      refine (rdLeft_any _ g s H.out).mono ?_
      rintro e w1 ⟨rfl, q, rfl⟩
      go_wp2_with fail
      go_ret
      exact ⟨by rw [HE.out]; rfl, _, rfl⟩
    · have HE : Hid (endR s = 5) := by show _ = _; rw [endR, if_pos he, if_neg hr]
      have hl : 0 < s.rest.length := List.length_pos_iff.2 hr
      clear hr he
      go_enter Try.func73, Try.ntmps73
      go_wp2_with fail
      refine (rdErr_any _ g s H.out).mono ?_
      rintro e w1 ⟨rfl, rfl⟩
      go_wp2_with fail
      refine (rdLeft_any _ g s H.out).mono ?_
      rintro e w1 ⟨rfl, q, rfl⟩
      go_wp2_with fail
      go_ret
      exact ⟨by rw [HE.out]; rfl, _, rfl⟩
  · have he1 : (s.err != 0) = true := by simp [he]
    have HE : Hid (endR s = s.err) := by show _ = _; rw [endR, if_neg he]
    go_enter Try.func73, Try.ntmps73
    go_wp2_with fail
    refine (rdErr_any _ g s H.out).mono ?_
    rintro e w1 ⟨rfl, rfl⟩
    go_wp2_with fail
    refine (rdErr_any _ g s H.out).mono ?_
    rintro e w1 ⟨rfl, rfl⟩
    go_wp2_with fail
    go_ret
    exact ⟨by rw [HE.out]; rfl, 0, rfl⟩
end Go.Proofs.Ythibihjblodfmaa
