/- fund.Fund: Held, Stakes, Clone, Same. -/
import Derived.Test.YtfapechlnllfaabF2
namespace Go.Proofs.Ytfapechlnllfaab
open Go.RowKit

def heldG : List Int → List Bool → Int
  | x :: l, y :: d => (if y then x else 0) + heldG l d
  | _, _ => 0
theorem held_nil (w : World) :
    Calls Try.prog 20 #[.pointer none] w fun e w' => e = .returned (.int .i64 0) ∧ w = w' := by
  go_enter Try.func20, Try.ntmps20
  go_wp2_with fail
  go_ret
  exact ⟨rfl, rfl⟩
theorem given_at {l : List Int} {d : List Bool} {k : Nat} (hk : k < l.length) (hk' : k < d.length) : givenG l d k = if d[k] then l[k] else 0 := by
  simp [givenG, has_true hk, hk, hk']
theorem held_any (w : World) (g : Nat) (l : List Int) (d : List Bool) (b : Int) (h : FundAt w g l d b) :
    Calls Try.prog 20 #[.pointer (some ⟨g, 0, none⟩)] w fun e w' => e = .returned (.int .i64 (heldG l d)) ∧ w = w' := by
  have h0 := h.c0
  have n8 := h.ok.n8
  have hdl := h.ok.dl
  obtain ⟨n, hn⟩ : ∃ n, n = l.length := ⟨_, rfl⟩
  rw [← hn] at h0 n8 hdl
  have H := Lib.hid h; clear h
  have HN := Lib.hid hn; clear hn
  have HDL := Lib.hid hdl; clear hdl
  go_enter Try.func20, Try.ntmps20
  go_wp2_with fail
  go_loop [3, 11] (fun s i => ∃ (k : Nat) (sv : Int), k ≤ n ∧ i = .int .i64 k ∧ s = .int .i64 sv ∧ 0 ≤ sv ∧ sv ≤ 1125899906842624 * (k : Int) ∧ Hid (sv + heldG (l.drop k) (d.drop k) = heldG l d)) (fun _ i => n - (intOf i).toNat)
  case atStart => exact ⟨0, 0, Nat.zero_le _, rfl, rfl, by omega, by omega, by show _ = _; simp⟩
  case round =>
    obtain ⟨k, sv, hk, rfl, rfl, hs1, hs2, hs⟩ := hrel
    by_cases hlt : k < n
    · have k1 : k < l.length := by have := HN.out; omega
      have k2 : k < d.length := by have := HDL.out; omega
      have e1 := hs.out
      rw [drop_cons (List.getElem?_eq_getElem k1), drop_cons (List.getElem?_eq_getElem k2)] at e1
      simp only [heldG] at e1
      obtain ⟨p1, p2⟩ := H.out.ok.pos l[k] (List.getElem_mem k1)
      have eg := given_at k1 k2
      obtain ⟨v, hv⟩ : ∃ v, v = (if d[k] then l[k] else 0) := ⟨_, rfl⟩
      have v0 : 0 ≤ v ∧ v ≤ 1125899906842624 := by rw [hv]; split <;> omega
      obtain ⟨v1, v2⟩ := v0
      rw [← hv] at e1 eg
      have E1 := Lib.hid e1; have EG := Lib.hid eg; clear e1 eg hv p1 p2 k1 k2
      go_wp2_with (go_at_call 19; refine (given_any _ _ _ _ _ H.out _).mono ?_; rintro e w' ⟨rfl, rfl⟩; rw [EG.out])
      go_round
      case rel => exact ⟨k + 1, sv + v, by omega, by go_num, rfl, by omega, by omega, by have := E1.out; show _ = _; omega⟩
      case measure => simp [intOf]; omega
    · go_wp2_with fail
      go_ret
      go_light
      have e1 := hs.out
      rw [List.drop_eq_nil_of_le (by have := HN.out; omega)] at e1
      exact ⟨by rw [← e1]; simp [heldG], rfl⟩

theorem stakes_nil (w : World) :
    Calls Try.prog 16 #[.pointer none] w fun e w' => e = .returned (.slice none 0 0) ∧ w = w' := by
  go_enter Try.func16, Try.ntmps16
  go_wp2_with fail
  go_ret
  exact ⟨rfl, rfl⟩
theorem fund_sl {w : World} {g : Nat} {l : List Int} {d : List Bool} {b : Int} (h : FundAt w g l d b) : Sl w w.heap.size 1 (some ⟨g, 1, none⟩) l.length (l.map (.int .i64)) :=
  ⟨by simp, by have := h.ok.n8; omega, fun _ => ⟨_, rfl, h.lt, fun j u hu => by
    rw [add_plain]
    rw [List.getElem?_map] at hu
    obtain ⟨x, hx, rfl⟩ := Option.map_eq_some_iff.1 hu
    exact h.cs hx⟩⟩
theorem stakes_any (w : World) (g : Nat) (l : List Int) (d : List Bool) (b : Int) (h : FundAt w g l d b) :
    Calls Try.prog 16 #[.pointer (some ⟨g, 0, none⟩)] w fun e w' => ∃ v, e = .returned v ∧ w'.ownsRow w.heap.size 3 1 v l.length (l.map (.int .i64)) ∧ Below w.heap.size w w' := by
  have h0 := h.c0
  have n8 := h.ok.n8
  have n2 := h.ok.n2
  have hs := fund_sl h
  obtain ⟨n, hn⟩ : ∃ n, n = l.length := ⟨_, rfl⟩
  rw [← hn] at h0 n8 n2 hs ⊢
  have n8' : (n : Int) ≤ 8 := by omega
  have n0' : (0 : Int) ≤ n := by omega
  obtain ⟨i0, hi, hz0, hz1, hz2⟩ := info_parts Try.infoInt
  have H := Lib.hid h; clear h
  have HS := Lib.hid hs; clear hs
  have HN := Lib.hid hn; clear hn
  go_enter Try.func16, Try.ntmps16
  go_wp2_with fail
  go_region_law (first | (refine step_app _ rfl (.const (.slice none 0 0)) (.tmp 12) 22 rfl w.heap.size 3 i0 (.int .i64 0) 1 8 Try.underlying22 hi hz0 hz1 hz2 rfl (by decide) (.slice none 0 0) 0 [] rfl (World.ownsRow_nil _ _ _ _) _ _ n 8 (l.map (.int .i64)) rfl (HS.out.drew) (ints_one _ _) (by unfold maxLen; omega) (by omega) (Nat.le_refl _) ?_; intro v1 w1 hown1 hg1 hat1; have hbl1 : Below w.heap.size w w1 := ((Below.refl _ _).drew).grown hg1 (Nat.le_refl _) (by simp [Value.ownBlock]); clear hg1 hat1))
  go_wp2_with fail
  go_ret
  go_light
  exact ⟨v1, rfl, by simpa using hown1, hbl1⟩

theorem clone_nil (w : World) :
    Calls Try.prog 26 #[.pointer none] w fun e w' => e = .returned (.pointer none) ∧ w = w' := by
  go_enter Try.func26, Try.ntmps26
  go_wp2_with fail
  go_ret
  exact ⟨rfl, rfl⟩

/-- All its cells. -/
theorem fund_cells {l : List Int} {d : List Bool} {b : Int} (ok : FundOk l d b) : ∃ a0 a1 a2 a3 a4 a5 a6 a7 b0 b1 b2 b3 b4 b5 b6 b7, fill8I l = [a0, a1, a2, a3, a4, a5, a6, a7] ∧ fill8B d = [b0, b1, b2, b3, b4, b5, b6, b7] ∧
    fundCells l d b = [.int .i64 (l.length : Nat), .int .i64 a0, .int .i64 a1, .int .i64 a2, .int .i64 a3, .int .i64 a4, .int .i64 a5, .int .i64 a6, .int .i64 a7, .bool b0, .bool b1, .bool b2, .bool b3, .bool b4, .bool b5, .bool b6, .bool b7, .int .i64 b] := by
  obtain ⟨a0, a1, a2, a3, a4, a5, a6, a7, ha⟩ := list8 _ (fill8I_len ok.n8)
  obtain ⟨b0, b1, b2, b3, b4, b5, b6, b7, hb⟩ := list8 _ (fill8B_len (d := d) (by have := ok.n8; have := ok.dl; omega))
  exact ⟨_, _, _, _, _, _, _, _, _, _, _, _, _, _, _, _, ha, hb, by rw [fundCells, ha, hb]; rfl⟩

end Go.Proofs.Ytfapechlnllfaab
