/- Have all signed? -/
import Derived.Test.YthibihjblodfmaaN6
namespace Go.Proofs.Ythibihjblodfmaa
open Go.RowKit Go.Maps

/-- Have all signed that must? -/
def allB (es : List Ent) (m : List Int) (ks : List (List Int)) (ps : List Pc) (fs : List Bool) : Bool := (missB es m ks ps fs ks.length).isEmpty
def allE (es : List Ent) (m : List Int) (ks : List (List Int)) (ps : List Pc) (fs : List Bool) : Int := if allB es m ks ps fs then 0 else 16
theorem all_len (w : World) (v : Value) (Ak As Af : Option Addr) (n ck N C F CF : Nat) (m : List Int) (hm : DgOk m) (h : n = 0 ∨ N ≠ n) :
    Calls Try.prog 97 #[v, .slice Ak n ck, .agg (dl m).toArray, .slice As N C, .slice Af F CF] w fun e w' => e = .returned (.int .i64 1) ∧ Below w.heap.size w w' := by
  obtain ⟨Y, hY⟩ : ∃ Y, (dl m).toArray = Y := ⟨_, rfl⟩
  obtain ⟨w1, hw1⟩ : ∃ w1, w.alloc (.cells Y 29) = w1 := ⟨_, rfl⟩
  have hb1 : Below w.heap.size w w1 := hw1 ▸ below_new w _
  have ky : Bk w1 w.heap.size 29 (dl m) := hw1 ▸ Bk.new' w _ Y (by rw [← hY])
  have HW := Lib.hid hw1; have HB1 := Lib.hid hb1; have HY := Lib.hid ky; have HDM := Lib.hid (hdg_size m hm); have HM := Lib.hid hm
  rw [hY]
  clear hY hw1 hb1 ky hm
  by_cases h0 : n = 0
  · subst h0
    clear h
    go_enter Try.func97, Try.ntmps97
    go_upto_region 1 with fail
    rw [HW.out]
    go_wp2_with fail
    go_ret
    exact ⟨rfl, HB1.out⟩
  · have h1 : ((n : Int) == 0) = false := by simp; omega
    have h2 : ((N : Int) != (n : Int)) = true := by simp; omega
    have h3 : ¬ ((n : Int) = 0) := by omega
    have h4 : ¬ ((N : Int) = n) := by omega
    clear h
    go_enter Try.func97, Try.ntmps97
    go_upto_region 1 with fail
    rw [HW.out]
    go_wp2_with fail
    go_ret
    exact ⟨rfl, HB1.out⟩

set_option maxRecDepth 20000 in
theorem all_any (w : World) (lo g : Nat) (es : List Ent) (hbk : BookAt w lo g es) (hl : es.length ≤ 65536) (Ak : Option Addr) (n ck : Nat) (ks : List (List Int)) (hk : Sl w w.heap.size 8 Ak n (cellsD ks)) (hko : DsOk ks) (hn : n ≤ 1000000) (hn0 : 0 < n)
    (m : List Int) (hm : DgOk m) (As : Option Addr) (C : Nat) (ps : List Pc) (hs : Sl w w.heap.size 1 As n (ps.map Pc.v)) (hps : PcsOk w ps) (hpb : PcsBy ps) (hpn : ∀ p ∈ ps, p.n ≤ 4294967296)
    (Af : Option Addr) (F CF : Nat) (fs : List Bool) (hf : Sl w w.heap.size 1 Af F (fs.map .bool)) :
    Calls Try.prog 97 #[.iface 49 (.pointer (some ⟨g, 0, none⟩)), .slice Ak n ck, .agg (dl m).toArray, .slice As n C, .slice Af F CF] w fun e w' =>
      e = .returned (.int .i64 (allE es m ks ps fs)) ∧ Below w.heap.size w w' := by
  obtain ⟨Y, hY⟩ : ∃ Y, (dl m).toArray = Y := ⟨_, rfl⟩
  obtain ⟨w1, hw1⟩ : ∃ w1, w.alloc (.cells Y 29) = w1 := ⟨_, rfl⟩
  have hb1 : Below w.heap.size w w1 := hw1 ▸ below_new w _
  have ky : Bk w1 w.heap.size 29 (dl m) := hw1 ▸ Bk.new' w _ Y (by rw [← hY])
  have HW := Lib.hid hw1; have HB1 := Lib.hid hb1; have HY := Lib.hid ky; have HDM := Lib.hid (hdg_size m hm); have HM := Lib.hid hm
  rw [hY]
  have HMI := Lib.hid (missing_any w1 lo g es (hbk.later hb1) hl Ak n ck ks (hk.later hb1) hko hn m hm As C ps (hs.later hb1) (hps.later hb1) hpb hpn Af F CF fs (hf.later hb1))
  have HKL := Lib.hid (hk.dgs hko)
  clear hY hw1 hb1 ky hm hbk hk hko hs hps hpb hpn hf
  have h1 : ((n : Int) == 0) = false := by simp; omega
  have h3 : ¬ ((n : Int) = 0) := by omega
  obtain ⟨L, hL⟩ : ∃ L, missB es m ks ps fs n = L := ⟨_, rfl⟩
  have HLL := Lib.hid hL
  rw [hL] at HMI
  clear hL
  by_cases hE : L.length = 0
  · have HA : Hid (allB es m ks ps fs = true) := by show _ = _; rw [allB, HKL.out, HLL.out, List.eq_nil_of_length_eq_zero hE]; rfl
    go_enter Try.func97, Try.ntmps97
    go_upto_region 1 with fail
    rw [HW.out]
    go_wp2_with (with_reducible refine wpList_load_bk rfl 29 _ rfl w.heap.size rfl (dl m) 29 HY.out _ Try.underlying29 rfl HDM.out ?_)
    refine HMI.out.mono ?_
    rintro e w2 ⟨⟨v, rfl, hown⟩, hb2⟩
    obtain ⟨A2, c2, rfl⟩ := own_form hown
    rw [hE]
    have HB2 := Lib.hid (below_then HB1.out hb2)
    clear hown hb2
    go_wp2_with fail
    go_ret
    exact ⟨by rw [allE, HA.out]; rfl, HB2.out⟩
  · have HA : Hid (allB es m ks ps fs = false) := by
      show _ = _; rw [allB, HKL.out, HLL.out]
      cases L with
      | nil => exact absurd rfl hE
      | cons => rfl
    obtain ⟨M, hM⟩ : ∃ M, L.length = M := ⟨_, rfl⟩
    have h5 : decide ((0 : Int) < (M : Int)) = true := by simp; omega
    have h6 : (0 : Int) < (M : Int) := by omega
    have h7 : 0 < M := by omega
    go_enter Try.func97, Try.ntmps97
    go_upto_region 1 with fail
    rw [HW.out]
    go_wp2_with (with_reducible refine wpList_load_bk rfl 29 _ rfl w.heap.size rfl (dl m) 29 HY.out _ Try.underlying29 rfl HDM.out ?_)
    refine HMI.out.mono ?_
    rintro e w2 ⟨⟨v, rfl, hown⟩, hb2⟩
    obtain ⟨A2, c2, rfl⟩ := own_form hown
    rw [hM]
    have HB2 := Lib.hid (below_then HB1.out hb2)
    clear hown hb2 hE hM
    go_wp2_with fail
    go_ret
    exact ⟨by rw [allE, HA.out]; rfl, HB2.out⟩

theorem full_len (w : World) (v : Value) (Ak As Af : Option Addr) (n ck N C F CF : Nat) (m : List Int) (hm : DgOk m) (h : n = 0 ∨ N ≠ n) :
    Calls Try.prog 48 #[v, .slice Ak n ck, .slice Af F CF, .agg (dl m).toArray, .slice As N C] w fun e w' => e = .returned (.bool false) ∧ Below w.heap.size w w' := by
  obtain ⟨Y, hY⟩ : ∃ Y, (dl m).toArray = Y := ⟨_, rfl⟩
  obtain ⟨w1, hw1⟩ : ∃ w1, w.alloc (.cells Y 29) = w1 := ⟨_, rfl⟩
  have hb1 : Below w.heap.size w w1 := hw1 ▸ below_new w _
  have ky : Bk w1 w.heap.size 29 (dl m) := hw1 ▸ Bk.new' w _ Y (by rw [← hY])
  have HW := Lib.hid hw1; have HB1 := Lib.hid hb1; have HY := Lib.hid ky; have HDM := Lib.hid (hdg_size m hm); have HM := Lib.hid hm
  rw [hY]
  have HA := Lib.hid (all_len w1 v Ak As Af n ck N C F CF m hm h)
  clear hY hw1 hb1 ky hm h
  go_enter Try.func48, Try.ntmps48
  go_upto_region 1 with fail
  rw [HW.out]
  go_wp2_with (with_reducible refine wpList_load_bk rfl 29 _ rfl w.heap.size rfl (dl m) 29 HY.out _ Try.underlying29 rfl HDM.out ?_)
  refine HA.out.mono ?_
  rintro e w2 ⟨rfl, hb2⟩
  have HB2 := Lib.hid (below_then HB1.out hb2)
  clear hb2
  go_wp2_with fail
  go_ret
  exact ⟨rfl, HB2.out⟩
theorem full_any (w : World) (lo g : Nat) (es : List Ent) (hbk : BookAt w lo g es) (hl : es.length ≤ 65536) (Ak : Option Addr) (n ck : Nat) (ks : List (List Int)) (hk : Sl w w.heap.size 8 Ak n (cellsD ks)) (hko : DsOk ks) (hn : n ≤ 1000000) (hn0 : 0 < n)
    (m : List Int) (hm : DgOk m) (As : Option Addr) (C : Nat) (ps : List Pc) (hs : Sl w w.heap.size 1 As n (ps.map Pc.v)) (hps : PcsOk w ps) (hpb : PcsBy ps) (hpn : ∀ p ∈ ps, p.n ≤ 4294967296)
    (Af : Option Addr) (F CF : Nat) (fs : List Bool) (hf : Sl w w.heap.size 1 Af F (fs.map .bool)) :
    Calls Try.prog 48 #[.iface 49 (.pointer (some ⟨g, 0, none⟩)), .slice Ak n ck, .slice Af F CF, .agg (dl m).toArray, .slice As n C] w fun e w' =>
      e = .returned (.bool (allB es m ks ps fs)) ∧ Below w.heap.size w w' := by
  obtain ⟨Y, hY⟩ : ∃ Y, (dl m).toArray = Y := ⟨_, rfl⟩
  obtain ⟨w1, hw1⟩ : ∃ w1, w.alloc (.cells Y 29) = w1 := ⟨_, rfl⟩
  have hb1 : Below w.heap.size w w1 := hw1 ▸ below_new w _
  have ky : Bk w1 w.heap.size 29 (dl m) := hw1 ▸ Bk.new' w _ Y (by rw [← hY])
  have HW := Lib.hid hw1; have HB1 := Lib.hid hb1; have HY := Lib.hid ky; have HDM := Lib.hid (hdg_size m hm); have HM := Lib.hid hm
  rw [hY]
  have HA := Lib.hid (all_any w1 lo g es (hbk.later hb1) hl Ak n ck ks (hk.later hb1) hko hn hn0 m hm As C ps (hs.later hb1) (hps.later hb1) hpb hpn Af F CF fs (hf.later hb1))
  obtain ⟨ab, hab⟩ : ∃ ab, allB es m ks ps fs = ab := ⟨_, rfl⟩
  rw [hab]
  have HE : Hid (allE es m ks ps fs = if ab then 0 else 16) := by show _ = _; rw [allE, hab]
  obtain ⟨en, hen⟩ : ∃ en, allE es m ks ps fs = en := ⟨_, rfl⟩
  rw [hen] at HA HE
  clear hen
  clear hY hw1 hb1 ky hm hbk hk hko hs hps hpb hpn hf hab
  cases ab
  all_goals
    obtain rfl := HE.out
    clear HE
    go_enter Try.func48, Try.ntmps48
    go_upto_region 1 with fail
    rw [HW.out]
    go_wp2_with (with_reducible refine wpList_load_bk rfl 29 _ rfl w.heap.size rfl (dl m) 29 HY.out _ Try.underlying29 rfl HDM.out ?_)
    refine HA.out.mono ?_
    rintro e w2 ⟨rfl, hb2⟩
    have HB2 := Lib.hid (below_then HB1.out hb2)
    clear hb2
    go_wp2_with fail
    go_ret
    exact ⟨rfl, HB2.out⟩
theorem count_nil (w : World) (Ak As : Option Addr) (n ck N C : Nat) (m : List Int) :
    Calls Try.prog 49 #[.nilIface, .slice Ak n ck, .agg (dl m).toArray, .slice As N C] w fun e w' => e = .returned (.int .i64 0) ∧ Below w.heap.size w w' := by
  obtain ⟨Y, hY⟩ : ∃ Y, (dl m).toArray = Y := ⟨_, rfl⟩
  rw [hY]
  have HB := Lib.hid (below_new w (.cells Y 29))
  clear hY
  go_enter Try.func49, Try.ntmps49
  go_wp2_with fail
  go_ret
  exact ⟨rfl, HB.out⟩
end Go.Proofs.Ythibihjblodfmaa
