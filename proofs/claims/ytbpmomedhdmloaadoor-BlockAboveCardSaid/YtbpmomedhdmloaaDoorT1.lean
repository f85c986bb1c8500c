/- Heights of trees: the program's and the document's. -/
import Derived.Test.YtbpmomedhdmloaaDoorH11
import Derived.Lib.Strings
import Derived.Lib.Slices
import Derived.Lib.Small
import Derived.Lib.Walk
import Derived.Lib.BitFns
namespace Go.Proofs.YtbpmomedhdmloaaDoor
open Go.RowKit

theorem tab_size : Lib.len8tab.size = 256 := by kernel_rfl
theorem tab_get (c : Nat) (hc : c < 256) (h : c < Lib.len8tab.size) : (Lib.len8tab[c]'h).toNat = Lib.bitLen c := by
  have key : ∀ n : Fin 256, (Lib.len8tab[n.val]'(by rw [tab_size]; exact n.isLt)).toNat = Lib.bitLen n.val := by decide +kernel
  exact key ⟨c, hc⟩
theorem bit8 (c : Nat) (hc : c < 256) : Lib.bitLen c ≤ 8 := Lib.bitLen_le8 ⟨c, hc⟩

set_option maxHeartbeats 4000000 in
set_option maxRecDepth 100000 in
theorem len64_any (x : Int) (w : World) (h0 : 0 ≤ x) (h1 : x ≤ 4095) :
    Calls Tryd.prog 93 #[.int .u64 x] w fun e w' => e = .returned (.int .i64 (Lib.bitLen x.toNat)) ∧ w = w' := by
  have hsz : (255 : Int) < Lib.len8tab.size := by rw [tab_size]; decide
  by_cases h8 : x < 256
  · go_enter Tryd.func93, Tryd.ntmps93
    go_wp2
    go_ret
    refine ⟨congrArg Ending.returned (congrArg (Value.int IntKind.i64) ?_), rfl⟩
    rw [tab_get x.toNat (by omega)]
    have := bit8 x.toNat (by omega)
    have e1 := IntWalk.wrap64_in ((Lib.bitLen x.toNat : Nat) : Int) (by omega)
    rw [e1, e1]
  · have h8' : 256 ≤ x := by omega
    go_enter Tryd.func93, Tryd.ntmps93
    go_wp2
    go_ret
    refine ⟨congrArg Ending.returned (congrArg (Value.int IntKind.i64) ?_), rfl⟩
    rw [tab_get (x / 256).toNat (by omega)]
    have := bit8 (x / 256).toNat (by omega)
    have s := Lib.bitLen_shift8 x.toNat (by omega) (by omega)
    have e : (x / 256).toNat = x.toNat / 256 := by omega
    rw [e] at this ⊢
    have e1 := IntWalk.wrap64_in ((Lib.bitLen (x.toNat / 256) : Nat) : Int) (by omega)
    have e2 := IntWalk.wrap64_in (8 + ((Lib.bitLen (x.toNat / 256) : Nat) : Int)) (by omega)
    rw [e1, e2, s]; omega
theorem len_any (x : Int) (w : World) (h0 : 0 ≤ x) (h1 : x ≤ 4095) :
    Calls Tryd.prog 89 #[.int .u64 x] w fun e w' => e = .returned (.int .i64 (Lib.bitLen x.toNat)) ∧ w = w' := by
  go_enter Tryd.func89, Tryd.ntmps89
  go_wp2_with (go_at_call 93; refine (len64_any x _ h0 h1).mono ?_; rintro e w' ⟨rfl, rfl⟩)
  go_ret
  exact ⟨rfl, rfl⟩

def heightI (n : Nat) : Nat := Lib.bitLen (n - 1)
def heightV (n : Nat) : Int := if n < 1 ∨ 4096 < n then -1 else heightI n
theorem height_le {n : Nat} (h : n ≤ 4096) : heightI n ≤ 12 := Lib.bitLen_le _ _ (by omega) (by omega)
theorem bit_lt (x : Nat) (hx : x < 2 ^ 64) : ∀ k, 2 ^ k ≤ x → k < Lib.bitLen x := by
  intro k hk
  rw [Lib.bitLen_shift k x hk hx]
  have h1 : 0 < x / 2 ^ k := Nat.div_pos hk (Nat.two_pow_pos k)
  have h2 : x / 2 ^ k < 2 ^ 64 := Nat.lt_of_le_of_lt (Nat.div_le_self _ _) hx
  rw [Lib.bitLen_half _ (by omega) h2]
  omega
theorem height_of {n h : Nat} (h1 : 1 ≤ n) (h4 : n ≤ 4096) (hh : h ≤ 12) (hu : n ≤ 2 ^ h) (hl : h = 0 ∨ 2 ^ (h - 1) < n) : heightI n = h := by
  have a : heightI n ≤ h := Lib.bitLen_le _ _ (by omega) (by have := Nat.two_pow_pos h; omega)
  rcases hl with rfl | hl
  · omega
  · have b := bit_lt (n - 1) (by omega) (h - 1) (by omega)
    unfold heightI at a ⊢
    omega
theorem height_up {n : Nat} (h4 : n ≤ 4096) : n ≤ 2 ^ heightI n := by
  rcases Nat.lt_or_ge (2 ^ heightI n) n with h | h
  · have := bit_lt (n - 1) (by omega) (heightI n) (by omega)
    unfold heightI at this; omega
  · exact h

theorem theight_any (n : Nat) (w : World) : Calls Tryd.prog 80 #[.int .i64 (n : Int)] w fun e w' => e = .returned (.int .i64 (heightV n)) ∧ w = w' := by
  by_cases h1 : n < 1
  · have HV := Lib.hid (show heightV n = -1 by rw [heightV, if_pos (.inl h1)])
    have h1' : (n : Int) < 1 := by omega
    go_enter Tryd.func80, Tryd.ntmps80
    go_wp2_with fail
    go_ret
    exact ⟨by rw [HV.out]; rfl, rfl⟩
  by_cases h2 : 4096 < n
  · have HV := Lib.hid (show heightV n = -1 by rw [heightV, if_pos (.inr h2)])
    have h1' : decide ((n : Int) < 1) = false := by simp; omega
    have h2' : (4096 : Int) < n := by omega
    go_enter Tryd.func80, Tryd.ntmps80
    go_wp2_with fail
    go_ret
    exact ⟨by rw [HV.out]; rfl, rfl⟩
  · have HV := Lib.hid (show heightV n = heightI n by rw [heightV, if_neg (by omega)])
    have h1' : decide ((n : Int) < 1) = false := by simp; omega
    have h2' : decide ((4096 : Int) < n) = false := by simp; omega
    have h3 : (1 : Int) ≤ n := by omega
    have h4 : (n : Int) ≤ 4096 := by omega
    have e1 : ((n : Int) - 1).toNat = n - 1 := by omega
    have E1 := Lib.hid e1; clear e1
    go_enter Tryd.func80, Tryd.ntmps80
    go_wp2_with (go_at_call 89; refine (len_any _ _ (by omega) (by omega)).mono ?_; rintro e w' ⟨rfl, rfl⟩; rw [E1.out])
    go_ret
    exact ⟨by rw [HV.out]; rfl, rfl⟩
theorem rheight_any (n : Nat) (w : World) : Calls Tryd.prog 27 #[.int .i64 (n : Int)] w fun e w' => e = .returned (.int .i64 (heightV n)) ∧ w = w' := by
  by_cases h1 : n < 1
  · have HV := Lib.hid (show heightV n = -1 by rw [heightV, if_pos (.inl h1)])
    have h1' : (n : Int) < 1 := by omega
    go_enter Tryd.func27, Tryd.ntmps27
    go_wp2_with fail
    go_ret
    exact ⟨by rw [HV.out]; rfl, rfl⟩
  by_cases h2 : 4096 < n
  · have HV := Lib.hid (show heightV n = -1 by rw [heightV, if_pos (.inr h2)])
    have h1' : decide ((n : Int) < 1) = false := by simp; omega
    have h2' : (4096 : Int) < n := by omega
    go_enter Tryd.func27, Tryd.ntmps27
    go_wp2_with fail
    go_ret
    exact ⟨by rw [HV.out]; rfl, rfl⟩
  · have HV := Lib.hid (show heightV n = heightI n by rw [heightV, if_neg (by omega)])
    have h1' : decide ((n : Int) < 1) = false := by simp; omega
    have h2' : decide ((4096 : Int) < n) = false := by simp; omega
    have h4 : n ≤ 4096 := by omega
    have h3 : 1 ≤ n := by omega
    go_enter Tryd.func27, Tryd.ntmps27
    go_wp2_with fail
    go_loop [3, 4] (fun hs ks => ∃ (h K : Nat), h ≤ 12 ∧ Hid (K = 2 ^ h) ∧ K ≤ 4096 ∧ hs = .int .i64 h ∧ ks = .int .i64 K ∧ Hid (h = 0 ∨ 2 ^ (h - 1) < n)) (fun hs _ => 12 - (intOf hs).toNat)
    case atStart => exact ⟨0, 1, by omega, rfl, by omega, rfl, rfl, .inl rfl⟩
    case round =>
      obtain ⟨h, K, hh, hK, hK4, rfl, rfl, hl⟩ := hrel
      by_cases hlt : K < n
      · have h12 : h < 12 := by
          rcases Nat.lt_or_ge h 12 with x | x
          · exact x
          · have := hK.out; have e : h = 12 := by omega
            rw [e] at this; omega
        have hK5 : 2 * K ≤ 4096 := by
          have e := hK.out
          have : 2 ^ (h + 1) ≤ 2 ^ 12 := Nat.pow_le_pow_right (by omega) (by omega)
          rw [Nat.pow_succ, ← e] at this; omega
        have hk1 : (K : Int) < n := by omega
        have HLT := Lib.hid hlt
        go_wp2_with fail
        go_round
        case rel => exact ⟨h + 1, 2 * K, by omega, by have := hK.out; show _ = _; rw [Nat.pow_succ]; omega, hK5, by go_num, by go_num, .inr (by have := hK.out; rw [Nat.add_sub_cancel, ← this]; exact HLT.out)⟩
        case measure => simp [intOf]; omega
      · have hk1 : (n : Int) ≤ K := by omega
        have E := Lib.hid (height_of h3 h4 hh (by rw [← hK.out]; omega) hl.out)
        go_wp2_with fail
        go_ret
        go_light
        exact ⟨by rw [HV.out, E.out]; rfl, rfl⟩
end Go.Proofs.YtbpmomedhdmloaaDoor
