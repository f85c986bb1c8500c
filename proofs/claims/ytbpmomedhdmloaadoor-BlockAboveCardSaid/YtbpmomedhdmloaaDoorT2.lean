/- The words of roots. -/
import Derived.Test.YtbpmomedhdmloaaDoorT1
namespace Go.Proofs.YtbpmomedhdmloaaDoor
open Go.RowKit

def digs (h : Nat) : List UInt8 := if h < 10 then [UInt8.ofNat (48 + h)] else [49, UInt8.ofNat (38 + h)]
def rootS (h : Nat) : ByteArray := ⟨([114, 111, 111, 116] ++ digs h).toArray⟩
theorem upto12 {x : Int} (h0 : 0 ≤ x) (hh : x ≤ 12) : x = 0 ∨ x = 1 ∨ x = 2 ∨ x = 3 ∨ x = 4 ∨ x = 5 ∨ x = 6 ∨ x = 7 ∨ x = 8 ∨ x = 9 ∨ x = 10 ∨ x = 11 ∨ x = 12 := by omega

set_option maxRecDepth 100000 in
theorem small_any (x : Int) (h0 : 0 ≤ x) (hh : x ≤ 12) (w : World) : Calls Tryd.prog 96 #[.int .i64 x] w fun e w' => e = .returned (.string ⟨(digs x.toNat).toArray⟩) ∧ w = w' := by
  rcases upto12 h0 hh with rfl | rfl | rfl | rfl | rfl | rfl | rfl | rfl | rfl | rfl | rfl | rfl | rfl
  all_goals
    go_enter Tryd.func96, Tryd.ntmps96
    go_wp2_with fail
    go_ret
    exact ⟨congrArg (fun b => Ending.returned (Value.string b)) (by decide +kernel), rfl⟩
theorem itoa_any (x : Int) (h0 : 0 ≤ x) (hh : x ≤ 12) (w : World) : Calls Tryd.prog 90 #[.int .i64 x] w fun e w' => e = .returned (.string ⟨(digs x.toNat).toArray⟩) ∧ w = w' := by
  have hd : decide (0 ≤ x) = true := by simp; omega
  have h2 : decide (x < 100) = true := by simp; omega
  obtain ⟨S, hS⟩ : ∃ S : ByteArray, ⟨(digs x.toNat).toArray⟩ = S := ⟨_, rfl⟩
  have HC : ∀ W, Calls Tryd.prog 95 #[.int .i64 x, .int .i64 10] W fun e w' => e = .returned (.string S) ∧ W = w' := by
    intro W
    have HSM := small_any x h0 hh
    rw [hS] at HSM
    have HM := Lib.hid HSM
    clear HSM hS
    go_enter Tryd.func95, Tryd.ntmps95
    go_wp2_with (go_at_call 96; refine (HM.out _).mono ?_; rintro e w' ⟨rfl, rfl⟩)
    go_ret
    exact ⟨rfl, rfl⟩
  rw [hS]
  have H1 := Lib.hid HC
  clear HC hS
  have H2 : Hid (∀ W, Calls Tryd.prog 94 #[.int .i64 x] W fun e w' => e = .returned (.string S) ∧ W = w') := by
    intro W
    go_enter Tryd.func94, Tryd.ntmps94
    go_wp2_with (go_at_call 95; refine (H1.out _).mono ?_; rintro e w' ⟨rfl, rfl⟩)
    go_ret
    exact ⟨rfl, rfl⟩
  go_enter Tryd.func90, Tryd.ntmps90
  go_wp2_with (go_at_call 94; refine (H2.out _).mono ?_; rintro e w' ⟨rfl, rfl⟩)
  go_ret
  exact ⟨rfl, rfl⟩

theorem conv_one (W : World) (b : Int) : (convert 40 9 (.slice (some ⟨W.heap.size, 0, none⟩) 1 1)).run Tryd.prog (W.alloc (.cells #[.int .u8 b] 5)) = .ok (.string ⟨#[UInt8.ofNat b.toNat]⟩) (W.alloc (.cells #[.int .u8 b] 5)) := by
  rw [run_convert_bytes_string _ _ _ 5 _ _ _ Tryd.underlying40 Tryd.underlying5 Tryd.underlying9]
  have hl := run_loadCells_list (P := Tryd.prog) (W.alloc (.cells #[.int .u8 b] 5)) ⟨W.heap.size, 0, none⟩ [.int .u8 b] (fun j v hv => by
    have hj : j = 0 := by have := (List.getElem?_eq_some_iff.1 hv).1; simp at this; exact this
    subst hj
    rw [add_plain, (Bk.new W 5 #[.int .u8 b]).cell]; exact hv)
  have := run_bytesToString (P := Tryd.prog) (W.alloc (.cells #[.int .u8 b] 5)) ⟨W.heap.size, 0, none⟩ 1 1 [b] (by simpa using hl)
  rw [this]
  rfl

end Go.Proofs.YtbpmomedhdmloaaDoor
