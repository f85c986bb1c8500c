/- The root of any block, its name, and one above another. -/
import Derived.Test.YtbpmomedhdmloaaDoorBN
import Derived.Test.YtbpmomedhdmloaaDoorBB
namespace Go.Proofs.YtbpmomedhdmloaaDoor
set_option linter.unusedSimpArgs false
set_option linter.unusedVariables false
open Go.RowKit Go.Maps

/-- The root of a block. -/
def rootT (h : Int) (L : List TxT) : List Int := if blkE h L = 0 then (if L.length = 0 then wordI zeroD txtNone else rootI (namesT L)) else zeroD
theorem rootT_ok (h : Int) (L : List TxT) : DgOk (rootT h L) := by unfold rootT; split <;> (try split) <;> first | exact wordI_ok _ _ | exact zero_ok | exact rootI_ok _
set_option maxRecDepth 20000 in
set_option maxHeartbeats 4000000 in
theorem brootT_any (w : World) (p : List Int) (h : Int) (m : List Int) (hp : DgOk p) (hm : DgOk m) (A : Option Addr) (N C : Nat) (xs : List (List Value × TxT)) (hx : Txs w A N xs) (hN : N ≤ 1000) (hl : ∀ x ∈ xs, x.2.b.length ≤ 1073741000 ∧ x.2.s.length ≤ 1073741000) :
    Calls Tryd.prog 22 #[.agg (bkC p h m (.slice A N C)).toArray] w fun e w' => e = .returned (.tuple #[.agg (dl (rootT h (xs.map (·.2)))).toArray, .int .i64 (blkE h (xs.map (·.2)))]) ∧ Below w.heap.size w w' := by
  have HRE := Lib.hid (fun (w' : World) (hx' : Txs w' A N xs) => right_b w' p h m hp hm A N C xs hx')
  have HNM := Lib.hid (fun (w' : World) (hx' : Txs w' A N xs) => names_any w' p h m hp hm A N C xs hx' hN hl)
  have HBS := Lib.hid (blk_sz (h := h) (s := .slice A N C) hp hm)
  clear hl hN
  obtain ⟨l, hl⟩ : ∃ x, bkC p h m (.slice A N C) = x := ⟨_, rfl⟩
  obtain ⟨X, hX⟩ : ∃ X, l.toArray = X := ⟨_, rfl⟩
  obtain ⟨z, hz⟩ : ∃ z, w.heap.size = z := ⟨_, rfl⟩
  obtain ⟨w1, hw1⟩ : ∃ w1, (w.alloc (.cells X 31)).alloc (.cells #[.int .u8 0, .int .u8 0, .int .u8 0, .int .u8 0, .int .u8 0, .int .u8 0, .int .u8 0, .int .u8 0] 28) = w1 := ⟨_, rfl⟩
  have hb1 : Below w.heap.size w w1 := hw1 ▸ (below_new w _).alloc (by simp) _
  have kx : Bk w1 z 31 l := hw1 ▸ (Bk.at_ w _ X hz (by rw [← hX])).alloc _
  have kr : Bk w1 (z + 1) 28 ([] ++ (dl zeroD ++ [])) := hw1 ▸ Bk.at_ _ _ #[.int .u8 0, .int .u8 0, .int .u8 0, .int .u8 0, .int .u8 0, .int .u8 0, .int .u8 0, .int .u8 0] (by simp [hz]) rfl
  have HM : Hid (∀ w' g', Bk w' g' 31 l → BkcM w' g' p h m (.slice A N C)) := fun w' g' h' => by rw [← hl] at h'; exact bkc_mem hp hm h'
  have HW := Lib.hid hw1; have HB1 := Lib.hid hb1; have HZ := Lib.hid hz; have HK1 := Lib.hid kx; have HR1 := Lib.hid kr; have HPO := Lib.hid hp; have HMO := Lib.hid hm; have HXE := Lib.hid hX; have HLE := Lib.hid hl
  have HX1 := Lib.hid (hx.later hb1); have HLN := Lib.hid hx.length
  rw [hl, hX]
  clear hl hX hw1 hb1 kx kr hz hp hm hx
  rw [HLE.out] at HBS HRE HNM
  rw [HXE.out] at HRE HNM
  have hLl : (xs.map (·.2)).length = N := by rw [List.length_map]; exact HLN.out
  obtain ⟨L, hL⟩ : ∃ L, xs.map (·.2) = L := ⟨_, rfl⟩
  rw [hL] at HRE HNM hLl ⊢
  obtain ⟨E, hE⟩ : ∃ E, blkE h L = E := ⟨_, rfl⟩
  have hz : E = 0 → N ≤ 64 := fun e => by have := (blkE_zero (hE.trans e)).2.1; rw [hLl] at this; exact this
  have HRO := Lib.hid (rootT_ok h L)
  have HRT : Hid (rootT h L = if E = 0 then (if N = 0 then wordI zeroD txtNone else rootI (namesT L)) else zeroD) := by show _ = _; rw [rootT, hE, hLl]
  obtain ⟨T, hT⟩ : ∃ T, rootT h L = T := ⟨_, rfl⟩
  rw [hE] at HRE ⊢
  rw [hT] at HRT HRO ⊢
  clear hL hE hT
  go_enter Tryd.func22, Tryd.ntmps22
  go_upto_region 1 with fail
  rw [HW.out, HZ.out]
  go_wp2_with (with_reducible refine wpList_load_bk rfl 31 _ rfl z rfl l 31 HK1.out _ Tryd.underlying31 rfl HBS.out ?_)
  rw [HXE.out]
  refine (HRE.out w1 HX1.out).mono ?_
  rintro e w2 ⟨rfl, hbn⟩
  have HB2 := Lib.hid (below_then HB1.out hbn); have HK2 := Lib.hid (HK1.out.later hbn); have HR2 := Lib.hid (HR1.out.later hbn); have HX2 := Lib.hid (HX1.out.later hbn)
  clear hbn HK1 HR1 HX1
  by_cases hE0 : E = 0
  · have hN64 := hz hE0
    subst hE0
    clear hz
    by_cases hN0 : N = 0
    · have hTT : T = wordI zeroD txtNone := by have := HRT.out; rwa [if_pos rfl, if_pos hN0] at this
      subst hN0
      have c17 := (HM.out _ _ HK2.out).c17
      go_wp2_with ((with_reducible refine wpList_build rfl 28 _ rfl #[] ?_ _ (build_d0 _) ?_); focus (simp [Act.eval, Act.put]; done))
      have hwd := word_anyb w2 zeroD zero_ok ⟨#[110, 111, 110, 101]⟩ (by decide)
      rw [txtNone_is, ← hTT] at hwd
      refine hwd.mono ?_
      rintro e w3 ⟨rfl, hbn⟩
      have HB3 := Lib.hid (below_then HB2.out hbn); have HR3 := Lib.hid (HR2.out.later hbn)
      clear hbn hwd hTT c17
      go_wp2_with (with_reducible refine stop_store 28 _ _ rfl ?_)
      refine StopD.go ?_
      refine wpList_store_part rfl 28 _ _ rfl (z + 1) 0 (.agg (dl T).toArray) (dl T) rfl rfl rfl 28 [] (dl zeroD) [] HR3.out rfl (dg_lens HRO.out) (hdg_size _ HRO.out) (dl_one' _) ?_
      intro wz hp
      have HTz : Hid (Bk wz ((z + 1)) 28 (dl T)) := by show Bk _ _ _ _; have := hp.bk; simpa using this
      have HBz := Lib.hid (below_only HB3.out hp.only HB3.out.size (by have := HZ.out; omega))
      clear hp
      go_wp2_with fail
      refine bodyPost_ret (root_ret HRO.out HTz.out _ rfl rfl) rfl ?_
      exact ⟨rfl, HBz.out⟩
    · have hTT : T = rootI (namesT L) := by have := HRT.out; rwa [if_pos rfl, if_neg hN0] at this
      have HTT := Lib.hid hTT
      have hNi : ¬ ((N : Int) = 0) := by omega
      have hNd : decide ((N : Int) = 0) = false := by simp [hN0]
      have c17 := (HM.out _ _ HK2.out).c17
      have HNN : Hid (rootE N = 0) := by show rootE N = 0; unfold rootE; simp; omega
      clear hTT
      go_wp2_with (with_reducible refine wpList_load_bk rfl 31 _ rfl z rfl l 31 HK2.out _ Tryd.underlying31 rfl HBS.out ?_)
      rw [HXE.out]
      refine (HNM.out w2 HX2.out).mono ?_
      rintro e w3 ⟨⟨v, rfl, hown⟩, hbn⟩
      have HB3 := Lib.hid (below_then HB2.out hbn); have HR3 := Lib.hid (HR2.out.later hbn)
      obtain ⟨A1, c1, rfl⟩ := own_form hown
      have HS := Lib.hid (Sl.of_own hown)
      clear hbn hown c17
      go_wp2_with fail
      refine (treeRoot_any w3 A1 N c1 (namesT L) (namesT_ok L) ?_).mono ?_
      · exact HS.out
      rintro e w4 ⟨rfl, hbn⟩
      rw [HNN.out, ← HTT.out]
      have HB4 := Lib.hid (below_then HB3.out hbn); have HR4 := Lib.hid (HR3.out.later hbn)
      clear hbn HS
      go_wp2_with (with_reducible refine stop_store 28 _ _ rfl ?_)
      refine StopD.go ?_
      refine wpList_store_part rfl 28 _ _ rfl (z + 1) 0 (.agg (dl T).toArray) (dl T) rfl rfl rfl 28 [] (dl zeroD) [] HR4.out rfl (dg_lens HRO.out) (hdg_size _ HRO.out) (dl_one' _) ?_
      intro wz hp
      have HTz : Hid (Bk wz ((z + 1)) 28 (dl T)) := by show Bk _ _ _ _; have := hp.bk; simpa using this
      have HBz := Lib.hid (below_only HB4.out hp.only HB4.out.size (by have := HZ.out; omega))
      clear hp
      go_wp2_with fail
      refine bodyPost_ret (root_ret HRO.out HTz.out _ rfl rfl) rfl ?_
      exact ⟨rfl, HBz.out⟩
  · have hd1 : (E != 0) = true := by simp [hE0]
    have hTT : T = zeroD := by have := HRT.out; rwa [if_neg hE0] at this
    clear hE0 hz
    subst hTT
    go_wp2_with (first
      | ((with_reducible refine wpList_build rfl 28 _ rfl #[] ?_ _ (build_d0 _) ?_); focus (simp [Act.eval, Act.put]; done))
      | (with_reducible refine stop_store 28 _ _ rfl ?_))
    refine StopD.go ?_
    refine wpList_store_part rfl 28 _ _ rfl (z + 1) 0 (.agg (dl zeroD).toArray) (dl zeroD) rfl rfl rfl 28 [] (dl zeroD) [] HR2.out rfl (dg_lens zero_ok) (hdg_size _ zero_ok) (dl_one' _) ?_
    intro wz hp
    have HTz : Hid (Bk wz ((z + 1)) 28 (dl zeroD)) := by show Bk _ _ _ _; have := hp.bk; simpa using this
    have HBz := Lib.hid (below_only HB2.out hp.only HB2.out.size (by have := HZ.out; omega))
    clear hp
    go_wp2_with fail
    refine bodyPost_ret (root_ret zero_ok HTz.out _ rfl rfl) rfl ?_
    exact ⟨rfl, HBz.out⟩
/-- The name of a block. -/
def nameT (p : List Int) (h : Int) (m : List Int) (N : Nat) (L : List TxT) : List Int := nameI p h m N (rootT h L) (blkE h L)
theorem nameT_ok (p : List Int) (h : Int) (m : List Int) (N : Nat) (L : List TxT) : DgOk (nameT p h m N L) := nameI_ok _ _ _ _ _ _
theorem bnameT_any (w : World) (p : List Int) (h : Int) (m : List Int) (hp : DgOk p) (hm : DgOk m) (A : Option Addr) (N C : Nat) (xs : List (List Value × TxT)) (hx : Txs w A N xs) (hN : N ≤ 1000) (hl : ∀ x ∈ xs, x.2.b.length ≤ 1073741000 ∧ x.2.s.length ≤ 1073741000) :
    Calls Tryd.prog 11 #[.agg (bkC p h m (.slice A N C)).toArray] w fun e w' => e = .returned (.tuple #[.agg (dl (nameT p h m N (xs.map (·.2)))).toArray, .int .i64 (blkE h (xs.map (·.2)))]) ∧ Below w.heap.size w w' :=
  bname_any w p h m hp hm A N C xs hx _ (rootT_ok _ _) (fun w' hx' => brootT_any w' p h m hp hm A N C xs hx' hN hl)
end Go.Proofs.YtbpmomedhdmloaaDoor
