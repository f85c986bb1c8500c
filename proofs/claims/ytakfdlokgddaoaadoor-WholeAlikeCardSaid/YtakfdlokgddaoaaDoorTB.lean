/- Nodes of the document. Roots beside paths: the program's. Roots beside paths: told and checked; lists of digests, compared. Lists of digests, compared. -/
import Derived.Test.YtakfdlokgddaoaaDoorTA
import Derived.Test.YtakfdlokgddaoaaDoorNB
import Derived.Laws.ResultCell
import Derived.BigQuiet
/-! Nodes of the document. -/
namespace Go.Proofs.YtakfdlokgddaoaaDoor
open Go.RowKit


def leafN : Option (List Int) → List Int
  | some d => lowI d
  | none => lackI
theorem leafN_ok : ∀ o, DgOk (leafN o)
  | some d => lowI_ok d
  | none => lackI_ok
def nodeI (ls : List (List Int)) : Nat → Nat → List Int
  | 0, k => leafN ls[k]?
  | l + 1, k => twoI (nodeI ls l (2 * k)) (nodeI ls l (2 * k + 1))
theorem nodeI_zero (ls : List (List Int)) (k : Nat) : nodeI ls 0 k = leafN ls[k]? := by rw [nodeI]
theorem nodeI_succ (ls : List (List Int)) (l k : Nat) : nodeI ls (l + 1) k = twoI (nodeI ls l (2 * k)) (nodeI ls l (2 * k + 1)) := by rw [nodeI]
theorem nodeI_ok (ls : List (List Int)) (l k : Nat) : DgOk (nodeI ls l k) := by
  cases l with
  | zero => rw [nodeI_zero]; exact leafN_ok _
  | succ l => rw [nodeI_succ]; exact twoI_ok _ _

end Go.Proofs.YtakfdlokgddaoaaDoor

/-! Roots beside paths: the program's. -/
namespace Go.Proofs.YtakfdlokgddaoaaDoor
open Go.RowKit

def stepW (i : Nat) (d x : List Int) : List Int := if i % 2 = 0 then twoI d x else twoI x d
def upI : Nat → List Int → List (List Int) → List Int
  | _, d, [] => d
  | i, d, x :: xs => upI (i / 2) (stepW i d x) xs
def withB (i : Int) (n : Nat) : Bool := decide (n ≤ 12 ∧ 0 ≤ i ∧ i < (2 ^ n : Nat))
def withI (i : Int) (leaf : List Int) (path : List (List Int)) : List Int := if withB i path.length then topI (upI i.toNat (lowI leaf) path) path.length else zeroD
theorem stepW_ok (i : Nat) (d x : List Int) : DgOk (stepW i d x) := by unfold stepW; split <;> exact twoI_ok _ _
theorem upI_ok : ∀ (xs : List (List Int)) (i : Nat) (d : List Int), DgOk d → DgOk (upI i d xs)
  | [], i, d, h => by rw [upI]; exact h
  | x :: xs, i, d, h => by rw [upI]; exact upI_ok xs _ _ (stepW_ok _ _ _)
theorem withI_ok (i : Int) (leaf : List Int) (path : List (List Int)) : DgOk (withI i leaf path) := by unfold withI; split <;> first | exact topI_ok _ _ | exact zeroD_ok

theorem results_row_tmp {P : Program} {fn : Func} {p u : Tmp} {ty : TypeId} (h : fn.results = #[.cell p ty, .tmp u]) (tmps : Array Value) (w : World) (g : Nat) (t : TypeId) (cs : Array Value) (fr : Nat × Nat) (d : TypeDesc)
    (hp : tmps.getD p undef = .pointer (some ⟨g, 0, none⟩)) (hg : w.heap[g]? = some (.cells cs t fr))
    (hu : P.underlying ty = some d) (hd : (match d with | .struct _ | .array _ _ => true | _ => false) = true) (hi : (P.info? ty).map (·.size) = some cs.size) :
    (results fn tmps).run P w = .ok (.tuple #[.agg cs, tmps.getD u undef]) w := by
  have hp' : tmps[p]?.getD undef = .pointer (some ⟨g, 0, none⟩) := by simpa using hp
  rw [results_cell_tmp h]
  simp [hp', asAddr, run_loadVar_row w g t ty cs fr d hg hu hd hi, Result.andThen]
theorem shl_num (n : Nat) (hn : n ≤ 12) : wrap64 (2 ^ n) = ((2 ^ n : Nat) : Int) ∧ 2 ^ n ≤ 4096 := by
  have : 2 ^ n ≤ 2 ^ 12 := Nat.pow_le_pow_right (by omega) hn
  have e : (2 : Int) ^ n = ((2 ^ n : Nat) : Int) := by norm_cast
  rw [e]
  obtain ⟨p, hp⟩ : ∃ p, 2 ^ n = p := ⟨_, rfl⟩
  rw [hp] at this ⊢
  exact ⟨IntWalk.wrap64_in _ (by omega), by omega⟩

set_option maxRecDepth 20000 in
theorem twith_any (w : World) (i : Int) (leaf : List Int) (hd : DgOk leaf) (A : Option Addr) (n c : Nat) (ls : List (List Int)) (ho : DsOk ls) (hs : Sl w w.heap.size 8 A n (cellsD ls)) :
    Calls Tryd.prog 68 #[.int .i64 i, .agg (dgA leaf), .slice A n c] w fun e w' => e = .returned (.tuple #[.agg (dgA (withI i leaf ls)), .bool (withB i n)]) ∧ Below w.heap.size w w' := by
  have hn := hs.le
  have hlen := hs.dgs ho
  obtain ⟨w1, hw1⟩ : ∃ w1, (w.alloc (.cells (dgA leaf) 23)).alloc (.cells (dgA zeroD) 23) = w1 := ⟨_, rfl⟩
  have kd : DgAt w1 w.heap.size 23 leaf := hw1 ▸ Bk.alloc (dg_new w _ _) _
  have kz : DgAt w1 (w.heap.size + 1) 23 zeroD := hw1 ▸ Bk.at_ _ _ _ (by simp) (dgA_list _)
  have hb1 : Below w.heap.size w w1 := hw1 ▸ (below_new w _).alloc (by simp) _
  have HKZ := Lib.hid kz; have HB1 := Lib.hid hb1; have HW := Lib.hid hw1; have HS := Lib.hid hs; have HL := Lib.hid hlen; have HDO := Lib.hid ho; have HD := Lib.hid hd
  have HC1 := Lib.hid kd.heap
  have HID := dg_info leaf hd
  clear kd kz hb1 hw1 hs hlen ho hd
  have HIZ := dg_info zeroD zeroD_ok
  have HOZ := Lib.hid (dgA_one zeroD)
  by_cases h12 : 12 < n
  · have h12' : (12 : Int) < n := by omega
    have HBF := Lib.hid (show withB i n = false by rw [withB]; simp; omega)
    have HWF := Lib.hid (show withI i leaf ls = zeroD by rw [withI, HL.out, HBF.out]; rfl)
    go_enter Tryd.func68, Tryd.ntmps68
    go_upto_region 1 with fail
    rw [zero8, show List.replicate 8 (0 : Int) = zeroD from rfl, HW.out]
    go_wp2_with (refine wpList_store_row rfl 23 _ _ rfl (w.heap.size + 1) (dgA zeroD) rfl rfl 23 (dgA zeroD) HKZ.out.heap HIZ.out rfl HOZ.out ?_)
    refine bodyPost_ret (results_row_tmp (p := 6) (u := 7) (ty := 23) rfl _ _ (w.heap.size + 1) 23 (dgA zeroD) (0, 0) _ rfl (setRow_heap _ _ _ _ _ _ HKZ.out.heap) Tryd.underlying23 rfl HIZ.out) rfl ?_
    rw [HBF.out, HWF.out]
    exact ⟨rfl, below_setRow HB1.out (by omega) _⟩
  have h12' : decide ((12 : Int) < n) = false := by simp; omega
  by_cases h0 : i < 0
  · skip
    have HBF := Lib.hid (show withB i n = false by rw [withB]; simp; omega)
    have HWF := Lib.hid (show withI i leaf ls = zeroD by rw [withI, HL.out, HBF.out]; rfl)
    go_enter Tryd.func68, Tryd.ntmps68
    go_upto_region 1 with fail
    rw [zero8, show List.replicate 8 (0 : Int) = zeroD from rfl, HW.out]
    go_wp2_with (refine wpList_store_row rfl 23 _ _ rfl (w.heap.size + 1) (dgA zeroD) rfl rfl 23 (dgA zeroD) HKZ.out.heap HIZ.out rfl HOZ.out ?_)
    refine bodyPost_ret (results_row_tmp (p := 6) (u := 7) (ty := 23) rfl _ _ (w.heap.size + 1) 23 (dgA zeroD) (0, 0) _ rfl (setRow_heap _ _ _ _ _ _ HKZ.out.heap) Tryd.underlying23 rfl HIZ.out) rfl ?_
    rw [HBF.out, HWF.out]
    exact ⟨rfl, below_setRow HB1.out (by omega) _⟩
  have h0' : decide (i < 0) = false := by simp; omega
  obtain ⟨hsh, hpl⟩ := shl_num n (by omega)
  obtain ⟨p2, hp2⟩ : ∃ p2, 2 ^ n = p2 := ⟨_, rfl⟩
  by_cases h2 : (p2 : Int) ≤ i
  · rw [hp2] at hsh
    have HBF := Lib.hid (show withB i n = false by rw [withB, hp2]; simp; omega)
    have HWF := Lib.hid (show withI i leaf ls = zeroD by rw [withI, HL.out, HBF.out]; rfl)
    go_enter Tryd.func68, Tryd.ntmps68
    go_upto_region 1 with fail
    rw [zero8, show List.replicate 8 (0 : Int) = zeroD from rfl, HW.out]
    go_wp2_with (refine wpList_store_row rfl 23 _ _ rfl (w.heap.size + 1) (dgA zeroD) rfl rfl 23 (dgA zeroD) HKZ.out.heap HIZ.out rfl HOZ.out ?_)
    refine bodyPost_ret (results_row_tmp (p := 6) (u := 7) (ty := 23) rfl _ _ (w.heap.size + 1) 23 (dgA zeroD) (0, 0) _ rfl (setRow_heap _ _ _ _ _ _ HKZ.out.heap) Tryd.underlying23 rfl HIZ.out) rfl ?_
    rw [HBF.out, HWF.out]
    exact ⟨rfl, below_setRow HB1.out (by omega) _⟩
  have h2' : decide ((p2 : Int) ≤ i) = false := by simp; omega
  rw [hp2] at hsh hpl
  obtain ⟨i0, rfl⟩ : ∃ i0 : Nat, i = i0 := ⟨i.toNat, by omega⟩
  have HBF := Lib.hid (show withB i0 n = true by rw [withB, hp2]; simp; omega)
  obtain ⟨R, hR⟩ : ∃ R, upI i0 (lowI leaf) ls = R := ⟨_, rfl⟩
  have HWF := Lib.hid (show withI i0 leaf ls = topI R n by rw [withI, HL.out, HBF.out, if_pos rfl, Int.toNat_natCast, hR])
  have HR := Lib.hid hR
  have hi0 : i0 ≤ 4096 := by omega
  clear hR hp2
  go_enter Tryd.func68, Tryd.ntmps68
  go_upto_region 1 with fail
  rw [zero8, show List.replicate 8 (0 : Int) = zeroD from rfl, HW.out]
  go_wp2_with (refine wpList_load_row rfl 23 _ rfl w.heap.size rfl 23 (dgA leaf) (0, 0) _ HC1.out Tryd.underlying23 rfl HID.out ?_)
  refine (low_any _ leaf HD.out).mono ?_
  rintro e w2 ⟨rfl, hb2⟩
  have HB2 := Lib.hid (HB1.out.trans (hb2.mono HB1.out.size))
  have HZ2 := Lib.hid (HKZ.out.later hb2)
  have HIL := dg_info (lowI leaf) (lowI_ok leaf)
  have HOL := Lib.hid (dgA_one (lowI leaf))
  have hgl : w.heap.size + 1 < w2.heap.size := Bk.lt HZ2.out
  have HSL : Hid ((dgA zeroD).size = (dgA (lowI leaf)).size) := by show _ = _; rw [dgA_size, dgA_size, (lowI_ok leaf).len]; rfl
  clear hb2
  go_wp2_with (refine wpList_store_row rfl 23 _ _ rfl w2.heap.size (dgA (lowI leaf)) rfl rfl 23 (dgA zeroD) (dg_new w2 _ zeroD).heap HIL.out HSL.out HOL.out ?_)
  have s1 : DgAt ((w2.alloc (.cells (dgA zeroD) 23)).setRow w2.heap.size (dgA (lowI leaf))) w2.heap.size 23 (lowI leaf) := DgAt.row (dg_new w2 _ zeroD) (lowI leaf)
  have s2 : DgAt ((w2.alloc (.cells (dgA zeroD) 23)).setRow w2.heap.size (dgA (lowI leaf))) (w.heap.size + 1) 23 zeroD := Bk.rowFar (Bk.alloc HZ2.out _) (by omega) _
  have s3 : Below w.heap.size w ((w2.alloc (.cells (dgA zeroD) 23)).setRow w2.heap.size (dgA (lowI leaf))) := below_setRow (HB2.out.alloc HB2.out.size _) (by omega) _
  have S1 := Lib.hid s1; have S2 := Lib.hid s2; have S3 := Lib.hid s3
  clear s1 s2 s3
  obtain ⟨g, hg⟩ : ∃ g, w2.heap.size = g := ⟨_, rfl⟩
  rw [hg] at S1 S2 S3 hgl ⊢
  clear HB2 HZ2 hg HIL HOL HSL HC1 HKZ HB1 HID
  go_loopw [0, 31] (fun is js wr => ∃ (j k : Nat) (d : List Int), j ≤ n ∧ is = .int .i64 k ∧ js = .int .i64 j ∧ k ≤ 4096 ∧ Hid (DgOk d) ∧ Hid (upI k d (ls.drop j) = R) ∧ Hid (DgAt wr g 23 d) ∧ Hid (DgAt wr (w.heap.size + 1) 23 zeroD) ∧ Hid (Below w.heap.size w wr)) (fun _ js _ => n - (intOf js).toNat)
  case atStart => exact ⟨0, i0, lowI leaf, by omega, rfl, rfl, hi0, lowI_ok leaf, HR.out, S1.out, S2.out, S3.out⟩
  case round =>
    obtain ⟨j, k, d, hj, rfl, rfl, hk, HDK, HUP, HG, HZ, HB⟩ := hrel
    have hgw : g < wr.heap.size := Bk.lt HG.out
    clear S1 S2 S3
    have HIK := dg_info d HDK.out
    by_cases hlt : j < n
    · obtain ⟨b, o, rfl, hbb, _⟩ := HS.out.spot (by omega) (by omega)
      obtain ⟨x, hx⟩ : ∃ x, ls[j]? = some x := ⟨ls[j]'(by rw [HL.out]; exact hlt), List.getElem?_eq_getElem _⟩
      have hxo := HDO.out x (List.mem_of_getElem? hx)
      have hr := sl_dg (HS.out.below HB.out) HDO.out hx
      have hup := HUP.out
      rw [drop_cons hx, upI] at hup
      have HUP2 := Lib.hid hup
      have HX := Lib.hid hxo; have HRG := Lib.hid hr
      have HI8 : Hid ((Tryd.prog.info? 23).map (·.size) = some (x.map (Value.int .u8)).length) := by
        show _ = _
        rw [List.length_map, hxo.len]; exact dg_size
      have HIX := dg_info x hxo
      have HOX := Lib.hid (dgA_one x)
      have HSX : Hid ((dgA zeroD).size = (dgA x).size) := by show _ = _; rw [dgA_size, dgA_size, hxo.len]; rfl
      have s1 : DgAt ((wr.alloc (.cells (dgA zeroD) 23)).setRow wr.heap.size (dgA x)) wr.heap.size 23 x := DgAt.row (dg_new wr _ zeroD) x
      have s2 : DgAt ((wr.alloc (.cells (dgA zeroD) 23)).setRow wr.heap.size (dgA x)) (w.heap.size + 1) 23 zeroD := Bk.rowFar (Bk.alloc HZ.out _) (by omega) _
      have s4 : DgAt ((wr.alloc (.cells (dgA zeroD) 23)).setRow wr.heap.size (dgA x)) g 23 d := Bk.rowFar (Bk.alloc HG.out _) (by omega) _
      have s3 : Below w.heap.size w ((wr.alloc (.cells (dgA zeroD) 23)).setRow wr.heap.size (dgA x)) := below_setRow (HB.out.alloc HB.out.size _) (by omega) _
      obtain ⟨wx, hwx⟩ : ∃ wx, (wr.alloc (.cells (dgA zeroD) 23)).setRow wr.heap.size (dgA x) = wx := ⟨_, rfl⟩
      rw [hwx] at s1 s2 s3 s4
      have S1 := Lib.hid s1; have S2 := Lib.hid s2; have S3 := Lib.hid s3; have S4 := Lib.hid s4; have HWX := Lib.hid hwx
      clear s1 s2 s3 s4 hwx hx hxo hr hup
      have hj1 : (j : Int) < n := by omega
      have hj0 : (0 : Int) ≤ j := by omega
      obtain ⟨q, hq⟩ : ∃ q, k / 2 = q := ⟨_, rfl⟩
      have hdv : (k : Int) / 2 = (q : Int) := by omega
      have hq4 : q ≤ 4096 := by omega
      rw [hq] at HUP2
      clear hq
      by_cases hpar : k % 2 = 0
      · have hm : (k : Int) % 2 = 0 := by omega
        have HST := Lib.hid (show stepW k d x = twoI d x by rw [stepW, if_pos hpar])
        go_wp2_with (first
          | (refine wpList_load_mid rfl 23 _ rfl b (o + j * 8) rfl (x.map (.int .u8)) _ HRG.out Tryd.underlying23 rfl HI8.out ?_)
          | (refine wpList_store_row rfl 23 _ _ rfl wr.heap.size (dgA x) rfl rfl 23 (dgA zeroD) (dg_new wr _ zeroD).heap HIX.out HSX.out HOX.out ?_; rw [zero8, show List.replicate 8 (0 : Int) = zeroD from rfl, HWX.out])
          | (refine wpList_load_row rfl 23 _ rfl g rfl 23 (dgA d) (0, 0) _ S4.out.heap Tryd.underlying23 rfl HIK.out ?_)
          | (refine wpList_load_row rfl 23 _ rfl wr.heap.size rfl 23 (dgA x) (0, 0) _ S1.out.heap Tryd.underlying23 rfl HIX.out ?_))
        refine (two_any _ d x HDK.out HX.out).mono ?_
        rintro e w5 ⟨rfl, hb5⟩
        rw [← HST.out]
        have G5 := Lib.hid (S4.out.later hb5)
        have Z5 := Lib.hid (S2.out.later hb5)
        have B5 := Lib.hid (S3.out.trans (hb5.mono S3.out.size))
        clear hb5
        have HI5 := dg_info (stepW k d x) (stepW_ok _ _ _)
        have HO5 := Lib.hid (dgA_one (stepW k d x))
        have HS5 : Hid ((dgA d).size = (dgA (stepW k d x)).size) := by show _ = _; rw [dgA_size, dgA_size, (stepW_ok _ _ _).len, HDK.out.len]
        go_wp2_with (refine wpList_store_row rfl 23 _ _ rfl g (dgA (stepW k d x)) rfl rfl 23 (dgA d) G5.out.heap HI5.out HS5.out HO5.out ?_)
        go_roundw
        case rel => exact ⟨j + 1, q, stepW k d x, by omega, rfl, by go_num, hq4, stepW_ok _ _ _, HUP2.out, DgAt.row G5.out _, Bk.rowFar Z5.out (by omega) _, below_setRow B5.out (by omega) _⟩
        case measure => simp [intOf]; omega
      · have hm : (k : Int) % 2 = 1 := by omega
        have HST := Lib.hid (show stepW k d x = twoI x d by rw [stepW, if_neg hpar])
        go_wp2_with (first
          | (refine wpList_load_mid rfl 23 _ rfl b (o + j * 8) rfl (x.map (.int .u8)) _ HRG.out Tryd.underlying23 rfl HI8.out ?_)
          | (refine wpList_store_row rfl 23 _ _ rfl wr.heap.size (dgA x) rfl rfl 23 (dgA zeroD) (dg_new wr _ zeroD).heap HIX.out HSX.out HOX.out ?_; rw [zero8, show List.replicate 8 (0 : Int) = zeroD from rfl, HWX.out])
          | (refine wpList_load_row rfl 23 _ rfl g rfl 23 (dgA d) (0, 0) _ S4.out.heap Tryd.underlying23 rfl HIK.out ?_)
          | (refine wpList_load_row rfl 23 _ rfl wr.heap.size rfl 23 (dgA x) (0, 0) _ S1.out.heap Tryd.underlying23 rfl HIX.out ?_))
        refine (two_any _ x d HX.out HDK.out).mono ?_
        rintro e w5 ⟨rfl, hb5⟩
        rw [← HST.out]
        have G5 := Lib.hid (S4.out.later hb5)
        have Z5 := Lib.hid (S2.out.later hb5)
        have B5 := Lib.hid (S3.out.trans (hb5.mono S3.out.size))
        clear hb5
        have HI5 := dg_info (stepW k d x) (stepW_ok _ _ _)
        have HO5 := Lib.hid (dgA_one (stepW k d x))
        have HS5 : Hid ((dgA d).size = (dgA (stepW k d x)).size) := by show _ = _; rw [dgA_size, dgA_size, (stepW_ok _ _ _).len, HDK.out.len]
        go_wp2_with (refine wpList_store_row rfl 23 _ _ rfl g (dgA (stepW k d x)) rfl rfl 23 (dgA d) G5.out.heap HI5.out HS5.out HO5.out ?_)
        go_roundw
        case rel => exact ⟨j + 1, q, stepW k d x, by omega, rfl, by go_num, hq4, stepW_ok _ _ _, HUP2.out, DgAt.row G5.out _, Bk.rowFar Z5.out (by omega) _, below_setRow B5.out (by omega) _⟩
        case measure => simp [intOf]; omega
    · obtain rfl : j = n := by omega
      have hup := HUP.out
      rw [List.drop_eq_nil_of_le (by rw [HL.out]; omega), upI] at hup
      subst hup
      go_wp2_with (refine wpList_load_row rfl 23 _ rfl g rfl 23 (dgA d) (0, 0) _ HG.out.heap Tryd.underlying23 rfl HIK.out ?_)
      refine (top_any _ d HDK.out _ (by omega) (by omega)).mono ?_
      rintro e w5 ⟨rfl, hb5⟩
      rw [Int.toNat_natCast]
      have Z5 := Lib.hid (HZ.out.later hb5)
      have B5 := Lib.hid (HB.out.trans (hb5.mono HB.out.size))
      clear hb5
      have HI5 := dg_info (topI d j) (topI_ok _ _)
      have HO5 := Lib.hid (dgA_one (topI d j))
      have HS5 : Hid ((dgA zeroD).size = (dgA (topI d j)).size) := by show _ = _; rw [dgA_size, dgA_size, (topI_ok _ _).len]; rfl
      go_wp2_with (refine wpList_store_row rfl 23 _ _ rfl (w.heap.size + 1) (dgA (topI d j)) rfl rfl 23 (dgA zeroD) Z5.out.heap HI5.out HS5.out HO5.out ?_)
      refine bodyPost_ret (results_row_tmp (p := 6) (u := 7) (ty := 23) rfl _ _ (w.heap.size + 1) 23 (dgA (topI d j)) (0, 0) _ rfl (setRow_heap _ _ _ _ _ _ Z5.out.heap) Tryd.underlying23 rfl HI5.out) rfl ?_
      rw [HBF.out, HWF.out]
      exact ⟨rfl, below_setRow B5.out (by omega) _⟩
end Go.Proofs.YtakfdlokgddaoaaDoor

/-! Roots beside paths: told and checked; lists of digests, compared. -/
namespace Go.Proofs.YtakfdlokgddaoaaDoor
open Go.RowKit

def eqD (ls ms : List (List Int)) : Bool := decide (ls = ms)
theorem dg_equal (a0 a1 a2 a3 a4 a5 a6 a7 b0 b1 b2 b3 b4 b5 b6 b7 : Int) (w : World) :
    (Op.equalIn 10000 23 (.agg #[.int .u8 a0, .int .u8 a1, .int .u8 a2, .int .u8 a3, .int .u8 a4, .int .u8 a5, .int .u8 a6, .int .u8 a7]) (.agg #[.int .u8 b0, .int .u8 b1, .int .u8 b2, .int .u8 b3, .int .u8 b4, .int .u8 b5, .int .u8 b6, .int .u8 b7])).run Tryd.prog w = .ok (eqL [a0, a1, a2, a3, a4, a5, a6, a7] [b0, b1, b2, b3, b4, b5, b6, b7]) w := by
  obtain ⟨i0, hi, hz0, hz1, hz2⟩ := info_parts Tryd.infoU8
  exact run_equalIn_ints (P := Tryd.prog) (k := .u8) 9998 23 5 8 Tryd.underlying23 Tryd.underlying5 hi hz1 [a0, a1, a2, a3, a4, a5, a6, a7] [b0, b1, b2, b3, b4, b5, b6, b7] rfl rfl w
theorem rdg_equal (a0 a1 a2 a3 a4 a5 a6 a7 b0 b1 b2 b3 b4 b5 b6 b7 : Int) (w : World) :
    (Op.equalIn 10000 22 (.agg #[.int .u8 a0, .int .u8 a1, .int .u8 a2, .int .u8 a3, .int .u8 a4, .int .u8 a5, .int .u8 a6, .int .u8 a7]) (.agg #[.int .u8 b0, .int .u8 b1, .int .u8 b2, .int .u8 b3, .int .u8 b4, .int .u8 b5, .int .u8 b6, .int .u8 b7])).run Tryd.prog w = .ok (eqL [a0, a1, a2, a3, a4, a5, a6, a7] [b0, b1, b2, b3, b4, b5, b6, b7]) w := by
  obtain ⟨i0, hi, hz0, hz1, hz2⟩ := info_parts Tryd.infoU8
  exact run_equalIn_ints (P := Tryd.prog) (k := .u8) 9998 22 5 8 Tryd.underlying22 Tryd.underlying5 hi hz1 [a0, a1, a2, a3, a4, a5, a6, a7] [b0, b1, b2, b3, b4, b5, b6, b7] rfl rfl w
theorem range8 {w : World} {b q : Nat} {a0 a1 a2 a3 a4 a5 a6 a7 : Int} (h : w.rangeAt b q ([a0, a1, a2, a3, a4, a5, a6, a7].map (Value.int .u8))) :
    w.cell? ⟨b, q, none⟩ = some (.int .u8 a0) ∧ w.cell? ⟨b, q + 1, none⟩ = some (.int .u8 a1) ∧ w.cell? ⟨b, q + 2, none⟩ = some (.int .u8 a2) ∧ w.cell? ⟨b, q + 3, none⟩ = some (.int .u8 a3) ∧ w.cell? ⟨b, q + 4, none⟩ = some (.int .u8 a4) ∧ w.cell? ⟨b, q + 5, none⟩ = some (.int .u8 a5) ∧ w.cell? ⟨b, q + 6, none⟩ = some (.int .u8 a6) ∧ w.cell? ⟨b, q + 7, none⟩ = some (.int .u8 a7) :=
  ⟨h 0 _ rfl, h 1 _ rfl, h 2 _ rfl, h 3 _ rfl, h 4 _ rfl, h 5 _ rfl, h 6 _ rfl, h 7 _ rfl⟩

def checkI (root : List Int) (i : Int) (leaf : List Int) (path : List (List Int)) : Bool := withB i path.length && eqL (withI i leaf path) root
set_option maxRecDepth 20000 in
theorem Check_any (w : World) (root : List Int) (i : Int) (leaf : List Int) (hr : DgOk root) (hd : DgOk leaf) (A : Option Addr) (n c : Nat) (ls : List (List Int)) (ho : DsOk ls) (hs : Sl w w.heap.size 8 A n (cellsD ls)) :
    Calls Tryd.prog 43 #[.agg (dgA root), .int .i64 i, .agg (dgA leaf), .slice A n c] w fun e w' => e = .returned (.bool (checkI root i leaf ls)) ∧ Below w.heap.size w w' := by
  have hlen := hs.dgs ho
  obtain ⟨w1, hw1⟩ : ∃ w1, (w.alloc (.cells (dgA root) 23)).alloc (.cells (dgA leaf) 23) = w1 := ⟨_, rfl⟩
  have kr : DgAt w1 w.heap.size 23 root := hw1 ▸ Bk.alloc (dg_new w _ _) _
  have kd : DgAt w1 (w.heap.size + 1) 23 leaf := hw1 ▸ Bk.at_ _ _ _ (by simp) (dgA_list _)
  have hb1 : Below w.heap.size w w1 := hw1 ▸ (below_new w _).alloc (by simp) _
  have HKR := Lib.hid kr; have HB1 := Lib.hid hb1; have HW := Lib.hid hw1; have HS := Lib.hid hs; have HDO := Lib.hid ho; have HD := Lib.hid hd
  have HC1 := Lib.hid kd.heap
  have HID := dg_info leaf hd
  have HCI := Lib.hid (show checkI root i leaf ls = (withB i n && eqL (withI i leaf ls) root) by rw [checkI, hlen])
  clear kd kr hb1 hw1 hs ho hd hlen
  go_enter Tryd.func43, Tryd.ntmps43
  go_upto_region 1 with fail
  rw [HW.out]
  go_wp2_with (refine wpList_load_row rfl 23 _ rfl (w.heap.size + 1) rfl 23 (dgA leaf) (0, 0) _ HC1.out Tryd.underlying23 rfl HID.out ?_)
  refine (twith_any _ i leaf HD.out A n c ls HDO.out ((HS.out.below HB1.out).more HB1.out.size)).mono ?_
  rintro e w2 ⟨rfl, hb2⟩
  have HB2 := Lib.hid (HB1.out.trans (hb2.mono HB1.out.size))
  have HR2 := Lib.hid (HKR.out.later hb2)
  have hwo := withI_ok i leaf ls
  obtain ⟨R, hR⟩ : ∃ R, withI i leaf ls = R := ⟨_, rfl⟩
  obtain ⟨bb, hbb⟩ : ∃ bb, withB i n = bb := ⟨_, rfl⟩
  rw [hR, hbb] at HCI
  rw [hR] at hwo
  rw [hR, hbb]
  obtain ⟨r0, r1, r2, r3, r4, r5, r6, r7, rfl⟩ := list8 R hwo.len
  obtain ⟨q0, q1, q2, q3, q4, q5, q6, q7, rfl⟩ := list8 root hr.len
  have HIR := dg_info [r0, r1, r2, r3, r4, r5, r6, r7] hwo
  have HOR := Lib.hid (dgA_one [r0, r1, r2, r3, r4, r5, r6, r7])
  have hg2 : w.heap.size < w2.heap.size := Bk.lt HR2.out
  have HSR : Hid ((dgA zeroD).size = (dgA [r0, r1, r2, r3, r4, r5, r6, r7]).size) := rfl
  have s1 : DgAt ((w2.alloc (.cells (dgA zeroD) 23)).setRow w2.heap.size (dgA [r0, r1, r2, r3, r4, r5, r6, r7])) w2.heap.size 23 [r0, r1, r2, r3, r4, r5, r6, r7] := DgAt.row (dg_new w2 _ zeroD) _
  have s2 : DgAt ((w2.alloc (.cells (dgA zeroD) 23)).setRow w2.heap.size (dgA [r0, r1, r2, r3, r4, r5, r6, r7])) w.heap.size 23 [q0, q1, q2, q3, q4, q5, q6, q7] := Bk.rowFar (Bk.alloc HR2.out _) (by omega) _
  have s3 : Below w.heap.size w ((w2.alloc (.cells (dgA zeroD) 23)).setRow w2.heap.size (dgA [r0, r1, r2, r3, r4, r5, r6, r7])) := below_setRow (HB2.out.alloc HB2.out.size _) (by omega) _
  obtain ⟨w3, hw3⟩ : ∃ w3, (w2.alloc (.cells (dgA zeroD) 23)).setRow w2.heap.size (dgA [r0, r1, r2, r3, r4, r5, r6, r7]) = w3 := ⟨_, rfl⟩
  rw [hw3] at s1 s2 s3
  have HW3 := Lib.hid hw3
  obtain ⟨c0, c1, c2, c3, c4, c5, c6, c7⟩ := cells8 s1
  obtain ⟨e0, e1, e2, e3, e4, e5, e6, e7⟩ := cells8 s2
  have S3 := Lib.hid s3
  have heq := fun w => dg_equal r0 r1 r2 r3 r4 r5 r6 r7 q0 q1 q2 q3 q4 q5 q6 q7 w
  clear s1 s2 s3 hb2 hwo hR hw3 hbb hr
  cases bb
  · go_wp2_with (refine wpList_store_row rfl 23 _ _ rfl w2.heap.size (dgA [r0, r1, r2, r3, r4, r5, r6, r7]) rfl rfl 23 (dgA zeroD) (dg_new w2 _ zeroD).heap HIR.out HSR.out HOR.out ?_; rw [zero8, show List.replicate 8 (0 : Int) = zeroD from rfl, HW3.out])
    go_ret
    exact ⟨by rw [HCI.out]; rfl, S3.out⟩
  · go_wp2_with (refine wpList_store_row rfl 23 _ _ rfl w2.heap.size (dgA [r0, r1, r2, r3, r4, r5, r6, r7]) rfl rfl 23 (dgA zeroD) (dg_new w2 _ zeroD).heap HIR.out HSR.out HOR.out ?_; rw [zero8, show List.replicate 8 (0 : Int) = zeroD from rfl, HW3.out])
    go_ret
    exact ⟨by rw [HCI.out]; rfl, S3.out⟩
end Go.Proofs.YtakfdlokgddaoaaDoor

/-! Lists of digests, compared. -/
namespace Go.Proofs.YtakfdlokgddaoaaDoor
open Go.RowKit

set_option maxRecDepth 20000 in
theorem equal_any (w : World) (A A' : Option Addr) (n n' c c' : Nat) (ls ms : List (List Int)) (ho : DsOk ls) (ho' : DsOk ms) (hs : Sl w w.heap.size 8 A n (cellsD ls)) (hs' : Sl w w.heap.size 8 A' n' (cellsD ms)) :
    Calls Tryd.prog 40 #[.slice A n c, .slice A' n' c'] w fun e w' => e = .returned (.bool (eqD ls ms)) ∧ ∃ q, w' = w.drewN q := by
  have hl := hs.dgs ho
  have hl' := hs'.dgs ho'
  have hn := hs.le
  have hn' := hs'.le
  by_cases hnn : n = n'
  · subst hnn
    have HS := Lib.hid hs; have HS' := Lib.hid hs'; have HO := Lib.hid ho; have HO' := Lib.hid ho'; have HL := Lib.hid hl; have HL' := Lib.hid hl'
    clear hs hs' ho ho' hl hl'
    go_enter Tryd.func40, Tryd.ntmps40
    go_wp2_with fail
    go_loopw [13] (fun is wr => ∃ (i q : Nat), i ≤ n ∧ is = .int .i64 i ∧ wr = w.drewN q ∧ Hid (ls.take i = ms.take i)) (fun is _ => n - (intOf is).toNat)
    case atStart => exact ⟨0, 0, by omega, rfl, rfl, by show _ = _; simp⟩
    case round =>
      obtain ⟨i, q, hi, rfl, rfl, HT⟩ := hrel
      by_cases hlt : i < n
      · obtain ⟨b, o, rfl, hbb, _⟩ := HS.out.spot (by omega) (by omega)
        obtain ⟨b', o', rfl, hbb', _⟩ := HS'.out.spot (by omega) (by omega)
        obtain ⟨x, hx⟩ : ∃ x, ls[i]? = some x := ⟨ls[i]'(by rw [HL.out]; exact hlt), List.getElem?_eq_getElem _⟩
        obtain ⟨y, hy⟩ : ∃ y, ms[i]? = some y := ⟨ms[i]'(by rw [HL'.out]; exact hlt), List.getElem?_eq_getElem _⟩
        have hxo := HO.out x (List.mem_of_getElem? hx)
        have hyo := HO'.out y (List.mem_of_getElem? hy)
        obtain ⟨a0, a1, a2, a3, a4, a5, a6, a7, rfl⟩ := list8 x hxo.len
        obtain ⟨b0, b1, b2, b3, b4, b5, b6, b7, rfl⟩ := list8 y hyo.len
        obtain ⟨c0, c1, c2, c3, c4, c5, c6, c7⟩ := range8 (sl_dg HS.out HO.out hx)
        obtain ⟨e0, e1, e2, e3, e4, e5, e6, e7⟩ := range8 (sl_dg HS'.out HO'.out hy)
        have heq := fun w => dg_equal a0 a1 a2 a3 a4 a5 a6 a7 b0 b1 b2 b3 b4 b5 b6 b7 w
        have hi1 : (i : Int) < n := by omega
        have hi0 : (0 : Int) ≤ i := by omega
        have HX := Lib.hid hx; have HY := Lib.hid hy
        clear hx hy hxo hyo
        by_cases hab : [a0, a1, a2, a3, a4, a5, a6, a7] = [b0, b1, b2, b3, b4, b5, b6, b7]
        · have hE : eqL [a0, a1, a2, a3, a4, a5, a6, a7] [b0, b1, b2, b3, b4, b5, b6, b7] = true := by rw [eqL, decide_eq_true hab]
          have HT2 : Hid (ls.take (i + 1) = ms.take (i + 1)) := by
            show _ = _
            rw [take_snoc HX.out, take_snoc HY.out, HT.out, hab]
          rw [hE] at heq
          clear hab hE
          go_wp2_with fail
          go_quiet (fail)
          go_wp2_with fail
          go_roundw
          case rel => exact ⟨i + 1, _, by omega, by go_num, rfl, HT2⟩
          case measure => simp [intOf]; omega
        · have hE : eqL [a0, a1, a2, a3, a4, a5, a6, a7] [b0, b1, b2, b3, b4, b5, b6, b7] = false := by rw [eqL, decide_eq_false hab]
          have HF : Hid (eqD ls ms = false) := by
            show _ = _
            rw [eqD]
            refine decide_eq_false fun h => ?_
            have h1 := HX.out; have h2 := HY.out
            rw [h, h2] at h1
            exact hab (Option.some.inj h1).symm
          rw [hE] at heq
          clear hab hE
          go_wp2_with fail
          go_quiet (fail)
          go_wp2_with fail
          go_ret
          exact ⟨by rw [HF.out]; rfl, _, World.drewN_drewN _ _ _⟩
      · obtain rfl : i = n := by omega
        have hT : eqD ls ms = true := by
          have := HT.out
          rw [List.take_of_length_le (by rw [HL.out]; omega), List.take_of_length_le (by rw [HL'.out]; omega)] at this
          rw [eqD, decide_eq_true this]
        have HTT := Lib.hid hT
        clear hT
        go_wp2_with fail
        go_ret
        go_light
        exact ⟨by rw [HTT.out]; rfl, _, rfl⟩
  · have HF : Hid (eqD ls ms = false) := by
      show _ = _
      rw [eqD]
      refine decide_eq_false fun h => ?_
      rw [h] at hl; omega
    have h1 : decide ((n : Int) = n') = false := by simp; omega
    clear hs hs' ho ho' hl hl'
    go_enter Tryd.func40, Tryd.ntmps40
    go_wp2_with fail
    go_ret
    exact ⟨by rw [HF.out]; rfl, 0, rfl⟩
end Go.Proofs.YtakfdlokgddaoaaDoor
