/- Trees: paths of leaves, leaves, sameness. -/
import Derived.Test.YtimcjldehememaaDoorT16
namespace Go.Proofs.YtimcjldehememaaDoor
open Go.RowKit

set_option maxRecDepth 20000 in
theorem treePath_any (w : World) (A : Option Addr) (n c : Nat) (i : Int) (ls : List (List Int)) (ho : DsOk ls) (hs : Sl w w.heap.size 8 A n (cellsD ls)) :
    Calls Tryd.prog 18 #[.slice A n c, .int .i64 i] w fun e w' => (∃ v, e = .returned (.tuple #[v, .int .i64 (pathE n i)]) ∧ w'.ownsRow w.heap.size 26 8 v (pathL ls i).length (cellsD (pathL ls i))) ∧ Below w.heap.size w w' := by
  have hlen := hs.dgs ho
  have HO := Lib.hid ho
  have HS := Lib.hid hs
  have HL := Lib.hid hlen
  clear ho hs hlen
  by_cases hok : 1 ≤ n ∧ n ≤ 4096
  · go_enter Tryd.func18, Tryd.ntmps18
    go_wp2_with fail
    refine (tNew_any _ A n c ls HO.out HS.out hok).mono ?_
    rintro e w2 ⟨T, hi, rfl, ht, hb2⟩
    have HT := Lib.hid ht
    have HB2 := Lib.hid hb2
    clear ht hb2
    go_wp2_with fail
    refine (tPath_any _ _ hi T ls HT.out i).mono ?_
    rintro e w3 ⟨⟨v, rfl, hown⟩, hb3⟩
    rw [HL.out]
    have HB3 := Lib.hid (HB2.out.trans (hb3.mono HB2.out.size))
    have HOW := Lib.hid (own_base hown HB2.out.size)
    clear hb3 hown
    go_wp2_with fail
    go_ret2
    exact ⟨⟨_, rfl, HOW.out⟩, HB3.out⟩
  · have HPE := Lib.hid (show pathE n i = 2 by rw [pathE, if_neg hok])
    have HPL := Lib.hid (show pathL ls i = [] by rw [pathL, HL.out, if_neg (fun h => hok h.1)])
    go_enter Tryd.func18, Tryd.ntmps18
    go_wp2_with fail
    refine (new_none _ A n c hok).mono ?_
    rintro e w2 ⟨rfl, rfl⟩
    go_wp2_with fail
    go_ret2
    rw [HPE.out, HPL.out]
    exact ⟨⟨_, rfl, World.ownsRow_nil _ _ _ _⟩, Below.refl _ _⟩
theorem tPath_nil (w : World) (i : Int) :
    Calls Tryd.prog 28 #[.pointer none, .int .i64 i] w fun e w' => e = .returned (.tuple #[.slice none 0 0, .int .i64 1]) ∧ w = w' := by
  go_enter Tryd.func28, Tryd.ntmps28
  go_wp2_with fail
  go_ret2
  exact ⟨rfl, rfl⟩

def leafI (ls : List (List Int)) (i : Int) : List Int := if 0 ≤ i ∧ i < ls.length then ls.getD i.toNat zeroD else zeroD
theorem getD_ok {ls : List (List Int)} (ho : DsOk ls) (k : Nat) : DgOk (ls.getD k zeroD) := by
  rw [List.getD_eq_getElem?_getD]
  cases h : ls[k]? with
  | none => exact zeroD_ok
  | some d => exact ho d (List.mem_of_getElem? h)
theorem leafI_ok {ls : List (List Int)} (ho : DsOk ls) (i : Int) : DgOk (leafI ls i) := by unfold leafI; split <;> first | exact getD_ok ho _ | exact zeroD_ok
theorem tLeaf_any (w : World) (lo hi : Nat) (T : Tr) (ls : List (List Int)) (t : TreeOf w lo hi T ls) (i : Int) :
    Calls Tryd.prog 29 #[.pointer (some ⟨T.g, 0, none⟩), .int .i64 i] w fun e w' => e = .returned (.tuple #[.agg (dgA (leafI ls i)), .bool (hasB ls.length i)]) ∧ Below w.heap.size w w' := by
  obtain ⟨ns, t, hal⟩ := t
  obtain ⟨w1, hw1⟩ : ∃ w1, w.alloc (.cells (dgA zeroD) 26) = w1 := ⟨_, rfl⟩
  have kz : DgAt w1 w.heap.size 26 zeroD := hw1 ▸ dg_new w _ _
  have hb1 : Below w.heap.size w w1 := hw1 ▸ below_new w _
  have t1 := t.later hb1
  have HHA := Lib.hid (has_any w1 lo hi T _ _ ls ns t1 i)
  have HKZ := Lib.hid kz; have HB1 := Lib.hid hb1; have HW := Lib.hid hw1
  clear kz hb1 hw1
  by_cases hin : 0 ≤ i ∧ i < ls.length
  · have HHB := Lib.hid (show hasB ls.length i = true by rw [hasB]; exact decide_eq_true hin)
    obtain ⟨i0, rfl⟩ : ∃ i0 : Nat, i = i0 := ⟨i.toNat, by omega⟩
    have hi0 : i0 < ls.length := by omega
    obtain ⟨x, hx⟩ : ∃ x, ls[i0]? = some x := ⟨ls[i0], List.getElem?_eq_getElem hi0⟩
    have hlf : leafI ls i0 = x := by rw [leafI, if_pos hin, Int.toNat_natCast, List.getD_eq_getElem?_getD, hx]; rfl
    have hxo := t.lok x (List.mem_of_getElem? hx)
    have hr := sl_dg t1.sl t.lok hx
    rw [Nat.zero_add] at hr
    have hcell := t1.lcell
    have HLF := Lib.hid hlf; have HR := Lib.hid hr; have HX := Lib.hid hxo
    rw [HHB.out] at HHA
    obtain ⟨g, hg⟩ : ∃ g, T.g = g := ⟨_, rfl⟩
    rw [hg] at HHA hcell
    rw [hg]
    obtain ⟨n, hn⟩ : ∃ n, ls.length = n := ⟨_, rfl⟩
    rw [hn] at hcell hi0 HHB
    rw [hn]
    have hi0' : (i0 : Int) < n := by omega
    have hi1' : (0 : Int) ≤ i0 := by omega
    have HI8 : Hid ((Tryd.prog.info? 26).map (·.size) = some (x.map (Value.int .u8)).length) := by
      show _ = _
      rw [List.length_map, hxo.len]; exact dg_size
    have HIX := dg_info x hxo
    have HOX := Lib.hid (dgA_one x)
    have HSX : Hid ((dgA zeroD).size = (dgA x).size) := by show _ = _; rw [dgA_size, dgA_size, hxo.len]; rfl
    clear t t1 hal hx hlf hxo hr hg hn hin
    go_enter Tryd.func29, Tryd.ntmps29
    go_upto_region 1 with fail
    rw [zero8, show List.replicate 8 (0 : Int) = zeroD from rfl, HW.out]
    go_wp2_with (first
      | (go_at_call 44; refine HHA.out.mono ?_; rintro e w2 ⟨rfl, rfl⟩)
      | (refine wpList_load_mid rfl 26 _ rfl T.bl (i0 * 8) rfl (x.map (.int .u8)) _ HR.out Tryd.underlying26 rfl HI8.out ?_)
      | (refine wpList_store_row rfl 26 _ _ rfl w.heap.size (dgA x) rfl rfl 26 (dgA zeroD) HKZ.out.heap HIX.out HSX.out HOX.out ?_))
    refine bodyPost_ret (results_row_tmp (p := 4) (u := 5) (ty := 26) rfl _ _ w.heap.size 26 (dgA x) (0, 0) _ rfl (setRow_heap _ _ _ _ _ _ HKZ.out.heap) Tryd.underlying26 rfl HIX.out) rfl ?_
    rw [HHB.out, HLF.out]
    exact ⟨rfl, below_setRow HB1.out (by omega) _⟩
  · have HHB := Lib.hid (show hasB ls.length i = false by rw [hasB]; exact decide_eq_false hin)
    have HLF := Lib.hid (show leafI ls i = zeroD by rw [leafI, if_neg hin])
    rw [HHB.out] at HHA
    have HIZ := dg_info zeroD zeroD_ok
    have HOZ := Lib.hid (dgA_one zeroD)
    clear t t1 hal
    go_enter Tryd.func29, Tryd.ntmps29
    go_upto_region 1 with fail
    rw [zero8, show List.replicate 8 (0 : Int) = zeroD from rfl, HW.out]
    go_wp2_with (first
      | (go_at_call 44; refine HHA.out.mono ?_; rintro e w2 ⟨rfl, rfl⟩)
      | (refine wpList_store_row rfl 26 _ _ rfl w.heap.size (dgA zeroD) rfl rfl 26 (dgA zeroD) HKZ.out.heap HIZ.out rfl HOZ.out ?_))
    refine bodyPost_ret (results_row_tmp (p := 4) (u := 5) (ty := 26) rfl _ _ w.heap.size 26 (dgA zeroD) (0, 0) _ rfl (setRow_heap _ _ _ _ _ _ HKZ.out.heap) Tryd.underlying26 rfl HIZ.out) rfl ?_
    rw [HHB.out, HLF.out]
    exact ⟨rfl, below_setRow HB1.out (by omega) _⟩
theorem tLeaf_nil (w : World) (i : Int) :
    Calls Tryd.prog 29 #[.pointer none, .int .i64 i] w fun e w' => e = .returned (.tuple #[.agg (dgA zeroD), .bool false]) ∧ Below w.heap.size w w' := by
  obtain ⟨w1, hw1⟩ : ∃ w1, w.alloc (.cells (dgA zeroD) 26) = w1 := ⟨_, rfl⟩
  have kz : DgAt w1 w.heap.size 26 zeroD := hw1 ▸ dg_new w _ _
  have hb1 : Below w.heap.size w w1 := hw1 ▸ below_new w _
  have HKZ := Lib.hid kz; have HB1 := Lib.hid hb1; have HW := Lib.hid hw1
  have HIZ := dg_info zeroD zeroD_ok
  have HOZ := Lib.hid (dgA_one zeroD)
  clear kz hb1 hw1
  go_enter Tryd.func29, Tryd.ntmps29
  go_upto_region 1 with fail
  rw [zero8, show List.replicate 8 (0 : Int) = zeroD from rfl, HW.out]
  go_wp2_with (first
    | (go_at_call 44; refine (has_nil _ i).mono ?_; rintro e w2 ⟨rfl, rfl⟩)
    | (refine wpList_store_row rfl 26 _ _ rfl w.heap.size (dgA zeroD) rfl rfl 26 (dgA zeroD) HKZ.out.heap HIZ.out rfl HOZ.out ?_))
  refine bodyPost_ret (results_row_tmp (p := 4) (u := 5) (ty := 26) rfl _ _ w.heap.size 26 (dgA zeroD) (0, 0) _ rfl (setRow_heap _ _ _ _ _ _ HKZ.out.heap) Tryd.underlying26 rfl HIZ.out) rfl ?_
  exact ⟨rfl, below_setRow HB1.out (by omega) _⟩

theorem quiet_more {P : Program} {f : FuncId} {args : Array Value} {w : World} {n : Nat} {v : Value}
    (h : Calls P f args (w.drewN n) fun e w' => e = .returned v ∧ ∃ q, w' = (w.drewN n).drewN q) : Calls P f args (w.drewN n) fun e w'' => e = .returned v ∧ ∃ m, w'' = w.drewN m :=
  h.mono fun _ _ ⟨he, q, hm⟩ => ⟨he, n + q, hm.trans (World.drewN_drewN _ _ _)⟩
theorem tSame_nil_r (w : World) (g : Nat) :
    Calls Tryd.prog 31 #[.pointer (some ⟨g, 0, none⟩), .pointer none] w fun e w' => e = .returned (.bool false) ∧ w = w' := by
  go_enter Tryd.func31, Tryd.ntmps31
  go_wp2_with fail
  go_ret
  exact ⟨rfl, rfl⟩
theorem tSame_nil_both (w : World) :
    Calls Tryd.prog 31 #[.pointer none, .pointer none] w fun e w' => e = .returned (.bool true) ∧ w = w' := by
  go_enter Tryd.func31, Tryd.ntmps31
  go_wp2_with fail
  go_ret
  exact ⟨rfl, rfl⟩
theorem tSame_any (w : World) (lo hi lo' hi' : Nat) (T T' : Tr) (ls ls' : List (List Int)) (t : TreeOf w lo hi T ls) (t' : TreeOf w lo' hi' T' ls') :
    Calls Tryd.prog 31 #[.pointer (some ⟨T.g, 0, none⟩), .pointer (some ⟨T'.g, 0, none⟩)] w fun e w' => e = .returned (.bool (eqD ls ls')) ∧ ∃ q, w' = w.drewN q := by
  obtain ⟨ns, t, hal⟩ := t
  obtain ⟨ns', t', hal'⟩ := t'
  have c1 := t.lcell
  have c2 := t'.lcell
  have HEQ := Lib.hid (fun q => equal_any (w.drewN q) _ _ _ _ T.cl T'.cl ls ls' t.lok t'.lok (t.drewN q).sl (t'.drewN q).sl)
  clear t t' hal hal'
  go_enter Tryd.func31, Tryd.ntmps31
  go_wp2_with fail
  go_quiet ((go_at_call 47; exact quiet_more (HEQ.out _)))
  go_wp2_with fail
  go_ret
  exact ⟨rfl, _, rfl⟩
end Go.Proofs.YtimcjldehememaaDoor
