/- The example of states. -/
import Derived.Test.YthibihjblodfmaaN8
namespace Go.Proofs.Ythibihjblodfmaa
open Go.RowKit Go.Maps

def tD1 : List Int := [1, 0, 0, 0, 0, 0, 0, 0]
def tD2 : List Int := [2, 0, 0, 0, 0, 0, 0, 0]
def tD9 : List Int := [9, 0, 0, 0, 0, 0, 0, 0]
def tMsg : List Int := ofI (stB tD9 3 [112])
theorem tD1_ok : DgOk tD1 := ⟨rfl, fun b hb => by simp [tD1] at hb; omega⟩
theorem tD2_ok : DgOk tD2 := ⟨rfl, fun b hb => by simp [tD2] at hb; omega⟩
theorem tD9_ok : DgOk tD9 := ⟨rfl, fun b hb => by simp [tD9] at hb; omega⟩
theorem tMsg_ok : DgOk tMsg := ofI_ok _
theorem tMsg_ne : eqL tMsg zeroD = false := by decide +kernel
theorem t_all (p : Pc) (q : Pc) (hp : p.bs = [0, 0]) (hq : q.bs = []) : allB [(tD1, tMsg)] tMsg [tD1, tD2] [p, q] [false, true] = true ∧ allB [(tD1, tMsg)] tMsg [tD1, tD2] [p, q] [] = false ∧ cntB [(tD1, tMsg)] tMsg [tD1, tD2] [p, q] = 1 := by
  obtain ⟨m, hm⟩ : ∃ m, tMsg = m := ⟨_, rfl⟩
  rw [hm]
  have v1 : verB [(tD1, m)] (tD1, m) [0, 0] = true := by simp [verB, sigB]
  have v2 : verB [(tD1, m)] (tD2, m) [] = false := by simp [verB, sigB]
  have b0 : ∀ fs, fs.getD 0 false = false → badB [(tD1, m)] m [tD1, tD2] [p, q] fs 0 = false := fun fs h => by
    unfold badB; rw [h]; simp [hp, v1]
  have b1 : ∀ fs, fs.getD 1 false = false → badB [(tD1, m)] m [tD1, tD2] [p, q] fs 1 = true := fun fs h => by
    unfold badB; rw [h]; simp [hq, v2]
  have b2 : ∀ fs, fs.getD 1 false = true → badB [(tD1, m)] m [tD1, tD2] [p, q] fs 1 = false := fun fs h => by
    unfold badB; rw [h]; rfl
  refine ⟨?_, ?_, ?_⟩
  · simp [allB, missB, List.range, List.range.loop, b0 [false, true] rfl, b2 [false, true] rfl]
  · simp [allB, missB, List.range, List.range.loop, b0 [] rfl, b1 [] rfl]
  · simp [cntB, hp, hq, v1, v2]
end Go.Proofs.Ythibihjblodfmaa
