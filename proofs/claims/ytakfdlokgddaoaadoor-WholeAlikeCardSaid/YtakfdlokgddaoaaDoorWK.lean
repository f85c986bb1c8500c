/- A ring's signature verifies; the example of rings. -/
import Derived.Test.YtakfdlokgddaoaaDoorWG
namespace Go.Proofs.YtakfdlokgddaoaaDoor
set_option linter.unusedSimpArgs false
set_option linter.unusedVariables false
open Go.RowKit Go.Maps

section
variable {w w' : World} {lo g b : Nat} {V tp : Value} {sec : List Int} {h : Int} {L : List (List Int)}
theorem LMap.eq {n : Nat} (k : LMap w b n L) (he : w'.heap[b]? = w.heap[b]?) : LMap w' b n L := by
  obtain ⟨es, clock, hb, F, hs, hD⟩ := k
  exact ⟨es, clock, he.trans hb, F, hs, hD⟩
theorem own_eq {base size n : Nat} {e : TypeId} {v : Value} {xs : List Value} (h : w.ownsRow base e size v n xs) (he : ∀ q, v.ownBlock = some q → w'.heap[q]? = w.heap[q]?) : w'.ownsRow base e size v n xs := by
  obtain ⟨hl, h⟩ := h
  refine ⟨hl, ?_⟩
  rcases h with h | ⟨g, cap, cur, rfl, hb, hh, h2⟩
  · exact .inl h
  · exact .inr ⟨g, cap, cur, rfl, hb, (he g rfl).trans hh, h2⟩
theorem LedAt.mono (k : LedAt w lo g b V sec h tp L) {lo' : Nat} (hl : lo' ≤ lo) : LedAt w lo' g b V sec h tp L :=
  ⟨k.bk, own_base k.row hl, k.map, Nat.le_trans hl k.glo, Nat.le_trans hl k.blo, k.ok, k.nd⟩
end
theorem sg_parts {sec : List Int} {h : Nat} {L : List (List Int)} (hL : LedOk (2 ^ h) L) (hh : h ≤ 8) {m : List Int} (hm : m ∈ L) :
    L.idxOf m < 2 ^ (pathL (leavesI sec h) (L.idxOf m)).length ∧ (pathL (leavesI sec h) (L.idxOf m)).length ≤ 8 ∧ (osignI (ownI sec (L.idxOf m)) m).length = 144 ∧ ByOk (osignI (ownI sec (L.idxOf m)) m) ∧ DsOk (pathL (leavesI sec h) (L.idxOf m)) ∧ sgI sec h L m = numB (L.idxOf m) ++ (osignI (ownI sec (L.idxOf m)) m ++ (pathL (leavesI sec h) (L.idxOf m)).flatten) ∧ ByOk (sgI sec h L m) := by
  have hlt := led_idx hL hm
  have hpl := path_len (leavesI_len sec h) hh hlt
  have hpo := pathL_ok (leavesI sec h) (L.idxOf m)
  have he : sgI sec h L m = numB (L.idxOf m) ++ (osignI (ownI sec (L.idxOf m)) m ++ (pathL (leavesI sec h) (L.idxOf m)).flatten) := by rw [sgI, sigI, List.append_assoc]
  have hp := (pow_le8 hh).2
  refine ⟨by rw [hpl]; exact hlt, by rw [hpl]; exact hh, osignI_len _ _, flat_ok (ends_ok _ _), hpo, he, ?_⟩
  rw [he]
  exact byOk_app (numB_ok (by omega)) (byOk_app (flat_ok (ends_ok _ _)) (flat_ok hpo))
theorem kidx_sg (w : World) {sec : List Int} {h : Nat} {L : List (List Int)} (hL : LedOk (2 ^ h) L) (hh : h ≤ 8) {m : List Int} (hm : m ∈ L) (A : Option Addr) (n c : Nat) (hs : Sl w w.heap.size 1 A n ((sgI sec h L m).map (.int .u8))) (hc : n ≤ c) :
    Calls Tryd.prog 13 #[.slice A n c] w fun e w' => e = .returned (.tuple #[.int .i64 (L.idxOf m : Nat), .bool true]) ∧ Below w.heap.size w w' := by
  obtain ⟨h1, h2, h3, h4, h5, h6, h7⟩ := sg_parts (sec := sec) hL hh hm
  exact kidx_any w A n c _ hs h7 hc _ _ _ h1 h2 h3 h5 h6
theorem kver_sg (w : World) {sec : List Int} {h : Nat} {L : List (List Int)} (hL : LedOk (2 ^ h) L) (hh : h ≤ 8) {m : List Int} (hm : m ∈ L) (pub msg : List Int) (hpu : DgOk pub) (hmo : DgOk msg) (A : Option Addr) (n c : Nat) (hs : Sl w w.heap.size 1 A n ((sgI sec h L m).map (.int .u8))) (hc : n ≤ c) :
    Calls Tryd.prog 14 #[.agg (dl pub).toArray, .agg (dl msg).toArray, .slice A n c] w fun e w' => e = .returned (.bool (verI pub msg (sgI sec h L m))) ∧ Below w.heap.size w w' := by
  obtain ⟨h1, h2, h3, h4, h5, h6, h7⟩ := sg_parts (sec := sec) hL hh hm
  have hv : verI pub msg (sgI sec h L m) = checkI pub (L.idxOf m : Nat) (toldI msg (osignI (ownI sec (L.idxOf m)) m)) (pathL (leavesI sec h) (L.idxOf m)) := by
    rw [sgI, verI, split_sig sec hh (led_idx hL hm) m]
  rw [hv]
  exact kver_any w pub msg hpu hmo A n c _ hs h7 hc _ _ _ h1 h2 h3 h4 h5 h6
theorem ver_sg {sec : List Int} {h : Nat} {L : List (List Int)} (hL : LedOk (2 ^ h) L) (hh : h ≤ 8) {m : List Int} (hm : m ∈ L) (hmo : DgOk m) : verI (rootI (leavesI sec h)) m (sgI sec h L m) = true := ver_sig sec hh (led_idx hL hm) hmo
theorem own_slw {w : World} {base : Nat} {bs : List Int} {v : Value} (h : w.ownsRow base 5 1 v bs.length (bs.map (.int .u8))) :
    ∃ A c, v = .slice A bs.length c ∧ Sl w w.heap.size 1 A bs.length (bs.map (.int .u8)) ∧ bs.length ≤ c := by
  obtain ⟨A, c, h1, h2, h3, _⟩ := own_facts (w := w) (w' := w) ⟨h, Below.refl _ _⟩
  exact ⟨A, c, h1, h2, h3⟩

def five : List Int := [5, 0, 0, 0, 0, 0, 0, 0]
def seven : List Int := [7, 0, 0, 0, 0, 0, 0, 0]
theorem five_ok : DgOk five := ⟨rfl, by intro b hb; simp [five] at hb; omega⟩
theorem seven_ok : DgOk seven := ⟨rfl, by intro b hb; simp [seven] at hb; omega⟩
theorem step_seven : stepL (2 ^ 1) [] seven = [seven] := by simp [stepL]
theorem res_seven : resE (2 ^ 1) [] seven = 0 := by rw [resE, step_seven, if_pos (by simp)]
theorem sgR_seven : sgR five 1 [] seven = sgI five 1 [seven] seven := by rw [sgR, step_seven, if_pos (by simp)]
theorem led_seven : LedOk (2 ^ 1) [seven] := by
  have := (LedOk.nil (2 ^ 1)).step seven_ok
  rwa [step_seven] at this
set_option maxRecDepth 20000 in
set_option maxHeartbeats 4000000 in
theorem awake_any (w : World) : Calls Tryd.prog 15 #[] w fun e w' => e = .returned (.bool true) ∧ Below w.heap.size w w' := by
  have HFO := Lib.hid five_ok; have HSO := Lib.hid seven_ok
  have HF : Hid ((#[.int .u8 5, .int .u8 0, .int .u8 0, .int .u8 0, .int .u8 0, .int .u8 0, .int .u8 0, .int .u8 0] : Array Value) = (dl five).toArray) := rfl
  have HS : Hid ((#[.int .u8 7, .int .u8 0, .int .u8 0, .int .u8 0, .int .u8 0, .int .u8 0, .int .u8 0, .int .u8 0] : Array Value) = (dl seven).toArray) := rfl
  have HKN := Lib.hid (knew_any w five five_ok 1 (by omega))
  go_enter Tryd.func15, Tryd.ntmps15
  go_wp2_with fail
  rw [HF.out]
  refine HKN.out.mono ?_
  rintro e w1 ⟨g, b, T, tlo, thi, rfl, hr, hbn⟩
  have HR1 := Lib.hid hr; have HB1 := Lib.hid hbn
  clear hr hbn HKN
  go_wp2_with fail
  rw [HS.out]
  have hsg := ksign_any w1 w.heap.size g b _ T tlo thi five 1 [] HR1.out seven HSO.out
  unfold RetSg at hsg
  rw [step_seven, res_seven, sgR_seven] at hsg
  refine hsg.mono ?_
  clear hsg
  rintro e w2 ⟨v, V, rfl, hown, hr, hc, hv⟩
  obtain ⟨A, c, rfl, hsl, hcc⟩ := own_slw hown
  have HR2 := Lib.hid hr; have HS2 := Lib.hid hsl; have HC2 := Lib.hid hcc
  have HB2 := Lib.hid (HB1.out.trans (hc.below HB1.out.size HR1.out.led.glo HR1.out.led.blo HR1.out.led.vlo))
  clear hown hr hsl hcc hc hv HR1 HB1
  obtain ⟨q, hq⟩ : ∃ q, (sgI five 1 [seven] seven).length = q := ⟨_, rfl⟩
  rw [hq] at HS2 HC2 ⊢
  clear hq
  have HPU := Lib.hid (rootI_ok (leavesI five 1))
  have HVT := Lib.hid (ver_sg (sec := five) (m := seven) led_seven (by omega) (by simp) HSO.out)
  have HVE := Lib.hid (fun w' hs => kver_sg w' (sec := five) (m := seven) led_seven (by omega) (by simp) (rootI (leavesI five 1)) seven HPU.out HSO.out A q c hs HC2.out)
  rw [HVT.out] at HVE
  have HKP := Lib.hid (fun w' r => kpub_any w' w.heap.size g b V T tlo thi five 1 [seven] r)
  have HVN := Lib.hid (fun w' => kver_nil w' (rootI (leavesI five 1)) seven)
  obtain ⟨R, hR⟩ : ∃ x, rootI (leavesI five 1) = x := ⟨_, rfl⟩
  rw [hR] at HVE HKP HVN
  clear hR HVT HPU
  go_wp2_with fail
  refine (HKP.out w2 HR2.out).mono ?_
  rintro e w3 ⟨rfl, hbn⟩
  have HB3 := Lib.hid (below_then HB2.out hbn); have HR3 := Lib.hid (HR2.out.later hbn); have HS3 := Lib.hid (HS2.out.later hbn)
  clear hbn HB2 HR2 HS2
  go_wp2_with fail
  rw [HS.out]
  refine (HVE.out w3 HS3.out).mono ?_
  rintro e w4 ⟨rfl, hbn⟩
  have HB4 := Lib.hid (below_then HB3.out hbn); have HR4 := Lib.hid (HR3.out.later hbn)
  clear hbn HB3 HR3 HS3 HVE
  go_wp2_with fail
  refine (HKP.out w4 HR4.out).mono ?_
  rintro e w5 ⟨rfl, hbn⟩
  have HB5 := Lib.hid (below_then HB4.out hbn)
  clear hbn HB4 HR4 HKP
  go_wp2_with fail
  rw [HS.out]
  refine (HVN.out w5).mono ?_
  rintro e w6 ⟨rfl, hbn⟩
  have HB6 := Lib.hid (below_then HB5.out hbn)
  clear hbn HB5
  go_wp2_with fail
  go_ret
  exact ⟨rfl, HB6.out⟩
end Go.Proofs.YtakfdlokgddaoaaDoor
