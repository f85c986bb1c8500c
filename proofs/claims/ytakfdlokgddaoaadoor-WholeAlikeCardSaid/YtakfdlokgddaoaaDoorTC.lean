/- Roots beside paths: the document's. Roots and paths: the document's. -/
import Derived.Test.YtakfdlokgddaoaaDoorTB
/-! Roots beside paths: the document's. -/
namespace Go.Proofs.YtakfdlokgddaoaaDoor
open Go.RowKit

end Go.Proofs.YtakfdlokgddaoaaDoor

/-! Roots and paths: the document's. -/
namespace Go.Proofs.YtakfdlokgddaoaaDoor
open Go.RowKit

theorem Tryd.infoDg : (Tryd.prog.info? 23).map (fun i => (i.zero, i.size, i.bytes)) = some (some (.agg (dgA zeroD)), 8, 8) := by kernel_rfl
theorem Tryd.infoRd : (Tryd.prog.info? 22).map (fun i => (i.zero, i.size, i.bytes)) = some (some (.agg (dgA zeroD)), 8, 8) := by kernel_rfl
def rootI (ls : List (List Int)) : List Int := if 1 ≤ ls.length ∧ ls.length ≤ 4096 then topI (nodeI ls (heightI ls.length) 0) (heightI ls.length) else zeroD
def rootE (n : Nat) : Int := if 1 ≤ n ∧ n ≤ 4096 then 0 else 2
theorem rootI_ok (ls : List (List Int)) : DgOk (rootI ls) := by unfold rootI; split <;> first | exact topI_ok _ _ | exact zeroD_ok

def sib (k : Nat) : Nat := if k % 2 = 1 then k - 1 else k + 1
def pathI (ls : List (List Int)) (i h : Nat) : List (List Int) := (List.range h).map fun l => nodeI ls l (sib (i / 2 ^ l))
theorem pathI_snoc (ls : List (List Int)) (i h : Nat) : pathI ls i (h + 1) = pathI ls i h ++ [nodeI ls h (sib (i / 2 ^ h))] := by
  simp [pathI, List.range_succ]
theorem pathI_ok (ls : List (List Int)) (i h : Nat) : DsOk (pathI ls i h) := by
  intro d hd
  simp only [pathI, List.mem_map] at hd
  obtain ⟨l, _, rfl⟩ := hd
  exact nodeI_ok _ _ _
theorem pathI_len (ls : List (List Int)) (i h : Nat) : (pathI ls i h).length = h := by simp [pathI]
theorem cellsD_snoc (ls : List (List Int)) (d : List Int) : cellsD (ls ++ [d]) = cellsD ls ++ d.map (Value.int .u8) := by simp [cellsD]
def pathL (ls : List (List Int)) (i : Int) : List (List Int) := if (1 ≤ ls.length ∧ ls.length ≤ 4096) ∧ 0 ≤ i ∧ i < ls.length then pathI ls i.toNat (heightI ls.length) else []
def pathE (n : Nat) (i : Int) : Int := if 1 ≤ n ∧ n ≤ 4096 then (if 0 ≤ i ∧ i < n then 0 else 9) else 2
theorem pathL_ok (ls : List (List Int)) (i : Int) : DsOk (pathL ls i) := by unfold pathL; split <;> first | exact pathI_ok _ _ _ | exact fun _ h => absurd h (by simp)

end Go.Proofs.YtakfdlokgddaoaaDoor
