/- The chapter's example: its numbers. -/
import Derived.Test.YtimcjldehememaaDoorT20
namespace Go.Proofs.YtimcjldehememaaDoor
open Go.RowKit

def oneD : List Int := [1, 0, 0, 0, 0, 0, 0, 0]
def twoD : List Int := [2, 0, 0, 0, 0, 0, 0, 0]
def rOne : List Int := [138, 64, 187, 13, 60, 175, 160, 63]
def rBoth : List Int := [231, 74, 47, 252, 211, 164, 4, 152]
def pOne : List Int := [183, 25, 81, 75, 160, 39, 194, 57]
theorem low_one : lowI oneD = pOne := by decide +kernel
theorem root_one : rootI [oneD] = rOne := by decide +kernel
theorem word_one : wordI pOne (bytesOf ⟨#[114, 111, 111, 116, 48]⟩) = rOne := by decide +kernel
theorem root_both : rootI [oneD, twoD] = rBoth := by decide +kernel
theorem path_both : pathL [oneD, twoD] 1 = [pOne] := by decide +kernel
theorem check_1 : checkI rBoth 1 twoD [pOne] = true := by decide +kernel
theorem check_0 : checkI rBoth 0 twoD [pOne] = false := by decide +kernel
end Go.Proofs.YtimcjldehememaaDoor
