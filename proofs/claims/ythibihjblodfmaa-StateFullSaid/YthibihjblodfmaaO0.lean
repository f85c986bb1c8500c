/- Bytes: lists of numbers below 256; those of a string. -/
import Derived.Test.YthibihjblodfmaaLib2
import Derived.Lib.ConvBytes
import Derived.Test.YthibihjblodfmaaRows
import Derived.BigGuardPart
import Derived.Deep.Light
import Derived.Deep.QuietTactic
import Derived.BigQuiet
namespace Go.Proofs.Ythibihjblodfmaa
open Go.RowKit

def zeroD : List Int := List.replicate 8 0
def ByOk (ds : List Int) : Prop := ∀ b ∈ ds, 0 ≤ b ∧ b < 256
theorem ByOk.tail {b : Int} {l : List Int} (h : ByOk (b :: l)) : ByOk l := fun x hx => h x (by simp [hx])
theorem ByOk.take {l : List Int} (h : ByOk l) (k : Nat) : ByOk (l.take k) := fun x hx => h x (List.mem_of_mem_take hx)
theorem ByOk.drop {l : List Int} (h : ByOk l) (k : Nat) : ByOk (l.drop k) := fun x hx => h x (List.mem_of_mem_drop hx)
theorem Try.infoU8 : (Try.prog.info? 5).map (fun i => (i.zero, i.size, i.bytes)) = some (some (.int .u8 0), 1, 1) := by kernel_rfl
def bytesOf (s : ByteArray) : List Int := s.data.toList.map fun c => (c.toNat : Int)
theorem bytesOf_len (s : ByteArray) : (bytesOf s).length = s.size := by simp [bytesOf]
theorem bytesOf_ok (s : ByteArray) : ByOk (bytesOf s) := fun b hb => by
  simp only [bytesOf, List.mem_map] at hb
  obtain ⟨c, _, rfl⟩ := hb
  have := c.toNat_lt
  omega
theorem below_bytes (W : World) (e : TypeId) (s : ByteArray) : Below W.heap.size W (Lib.bytesWorld W e s) :=
  ⟨rfl, rfl, rfl, by rw [Lib.bytesWorld_size]; omega, fun j hj => Lib.bytesWorld_at_old W e s j hj⟩
theorem sl_bytes (W : World) (e : TypeId) (s : ByteArray) (hs : s.size ≤ 9223372036854775807) :
    Sl (Lib.bytesWorld W e s) (Lib.bytesWorld W e s).heap.size 1 (some ⟨W.heap.size, 0, none⟩) s.size ((bytesOf s).map (.int .u8)) :=
  ⟨by simp [bytesOf_len], hs, fun _ => ⟨_, rfl, by rw [Lib.bytesWorld_size]; exact Nat.lt_succ_self _, fun j u hu => by
    have hj : j < s.size := by have := (List.getElem?_eq_some_iff.1 hu).1; simpa [bytesOf_len] using this
    rw [add_plain, Nat.zero_add, Lib.bytesWorld_cell W e s j hj]
    have hl : j < s.data.toList.length := by simpa using hj
    rw [List.getElem?_map, bytesOf, List.getElem?_map, List.getElem?_eq_getElem hl] at hu
    rw [List.getD_eq_getElem?_getD, List.getElem?_eq_getElem hl]
    simpa using hu⟩⟩
/-- A slice that lies apart from the one block that turns. -/
theorem sl_apart {w w' : World} {size n ga : Nat} {A : Option Addr} {xs : List Value} (h : Sl w w.heap.size size A n xs) (hg : w.grownBy w' (some ga)) (ha : ∀ ad, A = some ad → ad.block ≠ ga) : Sl w' w'.heap.size size A n xs :=
  ⟨h.len, h.le, fun hn => by
    obtain ⟨ad, e, hb, hc⟩ := h.mem hn
    exact ⟨ad, e, Nat.lt_of_lt_of_le hb hg.size, fun j u hu => (World.cell?_of_block (hg.block _ (by rw [add_block]; exact hb) (by rw [add_block]; intro h; injection h with h; exact ha ad e h))).trans (hc j u hu)⟩⟩
end Go.Proofs.Ythibihjblodfmaa
