/- A thing is the same as one that holds the same. -/
import Derived.Test.YthibihjblodfmaaQ7
namespace Go.Proofs.Ythibihjblodfmaa
open Go.RowKit

set_option maxRecDepth 20000 in
set_option maxHeartbeats 4000000 in
theorem same_any (w : World) (k n m : Int) (t u v : List Int) (ht : DgOk t) (hu : DgOk u) (hv : DgOk v) (A1 A2 A3 E1 E2 E3 : Option Addr) (N1 N2 N3 C1 C2 C3 M1 M2 M3 D1 D2 D3 : Nat) (ps qs ss : List Int)
    (hs : Sls w w.heap.size A1 A2 A3 N1 N2 N3 ps qs ss) (hs' : Sls w w.heap.size E1 E2 E3 M1 M2 M3 ps qs ss) :
    Calls Try.prog 24 #[.agg (thC k n m t u v (.slice A1 N1 C1) (.slice A2 N2 C2) (.slice A3 N3 C3)).toArray, .agg (thC k n m t u v (.slice E1 M1 D1) (.slice E2 M2 D2) (.slice E3 M3 D3)).toArray] w
      fun e w' => e = .returned (.bool true) ∧ Below w.heap.size w w' := by
  obtain ⟨X, hX⟩ : ∃ X, (thC k n m t u v (.slice A1 N1 C1) (.slice A2 N2 C2) (.slice A3 N3 C3)).toArray = X := ⟨_, rfl⟩
  obtain ⟨Y, hY⟩ : ∃ Y, (thC k n m t u v (.slice E1 M1 D1) (.slice E2 M2 D2) (.slice E3 M3 D3)).toArray = Y := ⟨_, rfl⟩
  obtain ⟨w1, hw1⟩ : ∃ w1, (w.alloc (.cells X 35)).alloc (.cells Y 35) = w1 := ⟨_, rfl⟩
  have hb1 : Below w.heap.size w w1 := hw1 ▸ (below_new w _).alloc (by simp) _
  have kx : Bk w1 w.heap.size 35 (thC k n m t u v (.slice A1 N1 C1) (.slice A2 N2 C2) (.slice A3 N3 C3)) := hw1 ▸ (Bk.new' w _ X (by rw [← hX])).alloc _
  have ky : Bk w1 (w.heap.size + 1) 35 (thC k n m t u v (.slice E1 M1 D1) (.slice E2 M2 D2) (.slice E3 M3 D3)) := hw1 ▸ Bk.at_ _ _ Y (by simp) (by rw [← hY])
  have hm := th_mem ht hu hv kx
  have hm' := th_mem ht hu hv ky
  have HW := Lib.hid hw1; have HB := Lib.hid hb1; have HKX := Lib.hid kx; have HKY := Lib.hid ky; have HM := Lib.hid hm; have HM' := Lib.hid hm'
  have HT := Lib.hid ht; have HU := Lib.hid hu; have HV := Lib.hid hv
  have HS := Lib.hid (hs.later hb1); have HS' := Lib.hid (hs'.later hb1)
  have HST : Hid ((Try.prog.info? 31).map (·.size) = some (staC n t (.slice A1 N1 C1)).length) := by show _ = _; rw [staC_len ht]; exact st_size
  have HST' : Hid ((Try.prog.info? 31).map (·.size) = some (staC n t (.slice E1 M1 D1)).length) := by show _ = _; rw [staC_len ht]; exact st_size
  have HAC : Hid ((Try.prog.info? 33).map (·.size) = some (actC m u v (.slice A2 N2 C2)).length) := by show _ = _; rw [actC_len hu hv]; exact ac_size
  have HAC' : Hid ((Try.prog.info? 33).map (·.size) = some (actC m u v (.slice E2 M2 D2)).length) := by show _ = _; rw [actC_len hu hv]; exact ac_size
  have HSS : Hid (∀ W, Below w1.heap.size w1 W → Calls Try.prog 79 #[.agg (staC n t (.slice A1 N1 C1)).toArray, .agg (staC n t (.slice E1 M1 D1)).toArray] W (fun e w' => e = .returned (.bool true) ∧ Below W.heap.size W w')) := fun W hW => by
    have := sameState_any W n n t t HT.out HT.out A1 E1 N1 M1 C1 D1 ps ps HS.out.po HS.out.po (HS.out.p.later hW) (HS'.out.p.later hW)
    simpa [eqL] using this
  have HAA : Hid (∀ W, Below w1.heap.size w1 W → Calls Try.prog 80 #[.agg (actC m u v (.slice A2 N2 C2)).toArray, .agg (actC m u v (.slice E2 M2 D2)).toArray] W (fun e w' => e = .returned (.bool true) ∧ Below W.heap.size W w')) := fun W hW => by
    have := sameAct_any W m m u u v v HU.out HU.out HV.out HV.out A2 E2 N2 M2 C2 D2 qs qs HS.out.qo HS.out.qo (HS.out.q.later hW) (HS'.out.q.later hW)
    simpa [eqL] using this
  have HBQ : Hid (∀ W, Below w1.heap.size w1 W → Calls Try.prog 81 #[.slice A3 N3 C3, .slice E3 M3 D3] W (fun e w' => e = .returned (.bool true) ∧ W = w')) := fun W hW => by
    have := bytesEq_any W _ _ A3 E3 N3 M3 C3 D3 ss ss HS.out.so HS.out.so (HS.out.s.later hW) (HS'.out.s.later hW)
    simpa [eqL] using this
  have c0 := hm.c0; have d0 := hm'.c0
  rw [hX, hY]
  clear hX hY hw1 hb1 kx ky hm hm' hs hs' ht hu hv
  go_enter Try.func24, Try.ntmps24
  go_upto_region 1 with fail
  rw [HW.out]
  go_wp2_with (first
    | ((with_reducible refine wpList_load_midG ?_ 31 _ rfl w.heap.size 1 rfl (staC n t (.slice A1 N1 C1)) _ HM.out.rS Try.underlying31 rfl HST.out ?_); rfl)
    | ((with_reducible refine wpList_load_midG ?_ 31 _ rfl (w.heap.size + 1) 1 rfl (staC n t (.slice E1 M1 D1)) _ HM'.out.rS Try.underlying31 rfl HST'.out ?_); rfl))
  refine (HSS.out _ (Below.refl _ _)).mono ?_
  rintro e w2 ⟨rfl, hb2⟩
  have HB2 := Lib.hid (below_then HB.out hb2)
  have HB12 := Lib.hid hb2
  have HM2 := Lib.hid (th_mem HT.out HU.out HV.out (HKX.out.later hb2))
  have HM2' := Lib.hid (th_mem HT.out HU.out HV.out (HKY.out.later hb2))
  clear hb2 c0 d0
  go_wp2_with (first
    | ((with_reducible refine wpList_load_midG ?_ 33 _ rfl w.heap.size 11 rfl (actC m u v (.slice A2 N2 C2)) _ HM2.out.rA Try.underlying33 rfl HAC.out ?_); rfl)
    | ((with_reducible refine wpList_load_midG ?_ 33 _ rfl (w.heap.size + 1) 11 rfl (actC m u v (.slice E2 M2 D2)) _ HM2'.out.rA Try.underlying33 rfl HAC'.out ?_); rfl))
  refine (HAA.out _ HB12.out).mono ?_
  rintro e w3 ⟨rfl, hb3⟩
  have HB3 := Lib.hid (below_then HB2.out hb3)
  have HB13 := Lib.hid (below_then HB12.out hb3)
  have c29 := (th_mem HT.out HU.out HV.out (HKX.out.later HB13.out)).c29
  have d29 := (th_mem HT.out HU.out HV.out (HKY.out.later HB13.out)).c29
  clear hb3
  go_wp2_with fail
  refine (HBQ.out _ HB13.out).mono ?_
  rintro e w4 ⟨rfl, rfl⟩
  go_wp2_with fail
  go_ret
  exact ⟨rfl, HB3.out⟩
end Go.Proofs.Ythibihjblodfmaa
