/- The secret of a key; what a ring is known by; a ring as bytes. -/
import Derived.Test.YtakfdlokgddaoaaDoorWB
import Derived.Test.YtakfdlokgddaoaaDoorS3
namespace Go.Proofs.YtakfdlokgddaoaaDoor
set_option linter.unusedSimpArgs false
set_option linter.unusedVariables false
open Go.RowKit Go.Maps

theorem txtKey_is : bytesOf ⟨#[107, 101, 121]⟩ = txtKey := by decide
theorem word_anyw (w : World) (a : List Int) (ha : DgOk a) (s : ByteArray) (hs : s.size ≤ 9223372036854775807) :
    Calls Tryd.prog 50 #[.agg (dl a).toArray, .string s] w fun e w' => e = .returned (.agg (dl (wordI a (bytesOf s))).toArray) ∧ Below w.heap.size w w' := word_any w a ha s hs
set_option maxRecDepth 20000 in
set_option maxHeartbeats 2000000 in
theorem own_any (w : World) (g : Nat) (sec : List Int) (h : Int) (tp V m : Value) (hs : DgOk sec) (hk : Bk w g 67 (rgC sec h tp V m)) (i : Nat) (hi : i ≤ 1000) :
    Calls Tryd.prog 25 #[.pointer (some ⟨g, 0, none⟩), .int .i64 i] w fun e w' => e = .returned (.agg (dl (ownI sec i)).toArray) ∧ Below w.heap.size w w' := by
  obtain ⟨z, hz⟩ : ∃ z, w.heap.size = z := ⟨_, rfl⟩
  obtain ⟨w1, hw1⟩ : ∃ w1, w.alloc (.cells #[.int .u8 0, .int .u8 0, .int .u8 0, .int .u8 0, .int .u8 0, .int .u8 0, .int .u8 0, .int .u8 0] 23) = w1 := ⟨_, rfl⟩
  have hb1 : Below w.heap.size w w1 := hw1 ▸ below_new w _
  have kr : Bk w1 z 23 ([] ++ (dl zeroD ++ [])) := hw1 ▸ Bk.at_ w _ #[.int .u8 0, .int .u8 0, .int .u8 0, .int .u8 0, .int .u8 0, .int .u8 0, .int .u8 0, .int .u8 0] hz rfl
  have HW := Lib.hid hw1; have HB1 := Lib.hid hb1; have HZ := Lib.hid hz; have HR1 := Lib.hid kr; have HSO := Lib.hid hs
  have HG1 := Lib.hid (rg_mem hs (hk.later hb1)).r0
  have hcw : IntKind.u64.wrap (i : Int) = i := by rw [IntKind.wrap_u64]; omega
  have HWD := Lib.hid (fun w' => word_anyw w' sec hs ⟨#[107, 101, 121]⟩ (by decide))
  rw [txtKey_is] at HWD
  have HWO := Lib.hid (wordI_ok sec txtKey)
  have HFO := Lib.hid (fromG_ok (i : Int))
  have hfr := fun w' => from_anyw (i : Int) w'
  have HTO := Lib.hid (ownI_ok sec i)
  have HST : Hid (twoI (wordI sec txtKey) (fromG i) = ownI sec i) := rfl
  obtain ⟨U, hU⟩ : ∃ T, wordI sec txtKey = T := ⟨_, rfl⟩
  obtain ⟨G, hG⟩ : ∃ T, fromG (i : Int) = T := ⟨_, rfl⟩
  obtain ⟨T, hT⟩ : ∃ T, ownI sec i = T := ⟨_, rfl⟩
  rw [hU] at HWD HWO HST
  rw [hG] at HFO HST hfr
  rw [hT] at HTO HST ⊢
  have HFR := Lib.hid hfr
  clear hw1 hb1 kr hz hs hk hU hG hT hfr
  go_enter Tryd.func25, Tryd.ntmps25
  go_upto_region 1 with fail
  rw [HW.out, HZ.out]
  go_wp2_with (with_reducible refine wpList_load_mid rfl 23 _ rfl g 0 rfl (dl sec) _ HG1.out Tryd.underlying23 rfl (hdg_size _ HSO.out) ?_)
  refine (HWD.out w1).mono ?_
  rintro e w2 ⟨rfl, hbn⟩
  have HR2 := Lib.hid (HR1.out.later hbn); have HB2 := Lib.hid (below_then HB1.out hbn)
  clear hbn HWD HR1 HG1
  go_wp2_with fail
  refine (HFR.out w2).mono ?_
  rintro e w3 ⟨rfl, hbn⟩
  have HR3 := Lib.hid (HR2.out.later hbn); have HB3 := Lib.hid (below_then HB2.out hbn)
  clear hbn HFR HR2
  go_wp2_with fail
  refine (two_anyw w3 U G HWO.out HFO.out).mono ?_
  rintro e w4 ⟨rfl, hbn⟩
  rw [HST.out]
  have HR4 := Lib.hid (HR3.out.later hbn); have HB4 := Lib.hid (below_then HB3.out hbn)
  clear hbn HR3
  go_wp2_with (with_reducible refine stop_store 23 _ _ rfl ?_)
  refine StopD.go ?_
  refine wpList_store_part rfl 23 _ _ rfl z 0 (.agg (dl T).toArray) (dl T) rfl rfl rfl 23 [] (dl zeroD) [] HR4.out rfl (dg_lensw HTO.out) (hdg_size _ HTO.out) (dl_one' _) ?_
  intro wz hp
  have HTz : Hid (Bk wz z 23 (dl T)) := by show Bk _ _ _ _; have := hp.bk; simpa using this
  have HBz := Lib.hid (below_only HB4.out hp.only HB4.out.size (Nat.le_of_eq HZ.out))
  clear hp
  go_wp2_with fail
  refine bodyPost_ret (results_cell_bk rfl _ _ z 23 (dl T) _ rfl HTz.out Tryd.underlying23 rfl (hdg_size _ HTO.out)) rfl ?_
  exact ⟨rfl, HBz.out⟩
theorem tRoot_anyw (w : World) (lo hi : Nat) (T : Tr) (ls : List (List Int)) (t : TreeOf w lo hi T ls) :
    Calls Tryd.prog 29 #[.pointer (some ⟨T.g, 0, none⟩)] w fun e w' => e = .returned (.agg (dl (rootI ls)).toArray) ∧ Below w.heap.size w w' := tRoot_any w lo hi T ls t
set_option maxRecDepth 20000 in
set_option maxHeartbeats 2000000 in
theorem kpub_any (w : World) (lo g b : Nat) (V : Value) (T : Tr) (tlo thi : Nat) (sec : List Int) (h : Nat) (L : List (List Int)) (r : RingAt w lo g b V T tlo thi sec h L) :
    Calls Tryd.prog 7 #[.pointer (some ⟨g, 0, none⟩)] w fun e w' => e = .returned (.agg (dl (rootI (leavesI sec h))).toArray) ∧ Below w.heap.size w w' := by
  obtain ⟨z, hz⟩ : ∃ z, w.heap.size = z := ⟨_, rfl⟩
  obtain ⟨w1, hw1⟩ : ∃ w1, w.alloc (.cells #[.int .u8 0, .int .u8 0, .int .u8 0, .int .u8 0, .int .u8 0, .int .u8 0, .int .u8 0, .int .u8 0] 23) = w1 := ⟨_, rfl⟩
  have hb1 : Below w.heap.size w w1 := hw1 ▸ below_new w _
  have kr : Bk w1 z 23 ([] ++ (dl zeroD ++ [])) := hw1 ▸ Bk.at_ w _ #[.int .u8 0, .int .u8 0, .int .u8 0, .int .u8 0, .int .u8 0, .int .u8 0, .int .u8 0, .int .u8 0] hz rfl
  have HW := Lib.hid hw1; have HB1 := Lib.hid hb1; have HZ := Lib.hid hz; have HR1 := Lib.hid kr
  have c9 := (rg_mem r.hs (r.later hb1).led.bk).c9
  have HRT := Lib.hid (tRoot_anyw w1 tlo thi T _ (r.later hb1).tree)
  have HDO := Lib.hid (rootI_ok (leavesI sec h))
  obtain ⟨R, hR⟩ : ∃ R, rootI (leavesI sec h) = R := ⟨_, rfl⟩
  rw [hR] at HRT HDO ⊢
  clear hw1 hb1 kr hz hR r
  go_enter Tryd.func7, Tryd.ntmps7
  go_upto_region 1 with fail
  rw [HW.out, HZ.out]
  go_wp2_with fail
  refine HRT.out.mono ?_
  rintro e w2 ⟨rfl, hbn⟩
  have HR2 := Lib.hid (HR1.out.later hbn); have HB2 := Lib.hid (below_then HB1.out hbn)
  clear hbn HRT HR1 c9
  go_wp2_with (with_reducible refine stop_store 23 _ _ rfl ?_)
  refine StopD.go ?_
  refine wpList_store_part rfl 23 _ _ rfl z 0 (.agg (dl R).toArray) (dl R) rfl rfl rfl 23 [] (dl zeroD) [] HR2.out rfl (dg_lensw HDO.out) (hdg_size _ HDO.out) (dl_one' _) ?_
  intro wz hp
  have HTz : Hid (Bk wz z 23 (dl R)) := by show Bk _ _ _ _; have := hp.bk; simpa using this
  have HBz := Lib.hid (below_only HB2.out hp.only HB2.out.size (Nat.le_of_eq HZ.out))
  clear hp
  go_wp2_with fail
  refine bodyPost_ret (results_cell_bk rfl _ _ z 23 (dl R) _ rfl HTz.out Tryd.underlying23 rfl (hdg_size _ HDO.out)) rfl ?_
  exact ⟨rfl, HBz.out⟩

/-! ### A ring as bytes -/
def savK (sec : List Int) (h : Nat) (L : List (List Int)) (k : Nat) : List Int := lstB sec ++ numB h ++ numB L.length ++ (L.take k).flatMap lstB
theorem savK_all (sec : List Int) (h : Nat) (L : List (List Int)) : savK sec h L L.length = saveI sec h L := by rw [savK, saveI, List.take_length]
theorem savK_snoc {sec : List Int} {h : Nat} {L : List (List Int)} {k : Nat} {d : List Int} (hd : L[k]? = some d) (h8 : DgOk d) : savK sec h L (k + 1) = savK sec h L k ++ (numB 8 ++ d) := by
  rw [savK, take_snoc hd, List.flatMap_append, ← List.append_assoc]
  simp [savK, lstB, h8.len]
theorem lst8 {d : List Int} (h : DgOk d) : (lstB d).length ≤ 18 := by have := lstB_len d; rw [h.len] at this; exact this
theorem flat18 : ∀ (L : List (List Int)), DsOk L → (L.flatMap lstB).length ≤ 18 * L.length
  | [], _ => by simp
  | d :: L, h => by
    have h1 := flat18 L (fun x hx => h x (by simp [hx]))
    have h2 := lst8 (h d (by simp))
    rw [List.flatMap_cons, List.length_append, List.length_cons]; omega
theorem savK_len {sec : List Int} {h : Nat} {L : List (List Int)} (k : Nat) (hs : DgOk sec) (hL : DsOk L) (hl : L.length ≤ 256) : (savK sec h L k).length ≤ 5000 := by
  have h1 := lst8 hs
  have h2 := numB_le h
  have h3 := numB_le L.length
  have h4 := flat18 (L.take k) (fun d hd => hL d (List.mem_of_mem_take hd))
  have h5 : (L.take k).length ≤ L.length := by rw [List.length_take]; omega
  simp only [savK, List.length_append]; omega
set_option maxRecDepth 20000 in
set_option maxHeartbeats 4000000 in
theorem save_any (w : World) (lo g b : Nat) (V tp : Value) (sec : List Int) (h : Nat) (L : List (List Int)) (hk : LedAt w lo g b V sec h tp L) (hs : DgOk sec) (hh : h ≤ 8) (hl : L.length ≤ 256) :
    Calls Tryd.prog 6 #[.pointer (some ⟨g, 0, none⟩)] w (RetB w.heap.size (saveI sec h L) w) := by
  obtain ⟨A, c, rfl⟩ := own_form hk.row
  have HK0 := Lib.hid hk; have HSO := Lib.hid hs; have HLO := Lib.hid hk.ok
  have HSL := Lib.hid (fun k => savK_len (h := h) k hs hk.ok hl)
  have HFI := Lib.hid (savK_all sec h L)
  have HSN := Lib.hid (fun (k : Nat) (d : List Int) (hd : L[k]? = some d) => savK_snoc (sec := sec) (h := h) hd (hk.ok d (List.mem_of_getElem? hd)))
  have HE1 : Hid ([] ++ (numB 8 ++ sec) = lstB sec) := by show _ = _; rw [lstB, hs.len]; rfl
  have HE3 : Hid (lstB sec ++ numB h ++ numB L.length = savK sec h L 0) := by show _ = _; simp [savK]
  have HL1 := Lib.hid (lst8 hs)
  have hpn := (numF_len 9 h).2
  have HL2 : Hid ((lstB sec ++ numB h).length ≤ 28) := by show _ ≤ _; have := lst8 hs; rw [List.length_append]; have := numB_le h; omega
  obtain ⟨n, hn⟩ : ∃ n, L.length = n := ⟨_, rfl⟩
  have HN := Lib.hid hn
  rw [hn] at HE3 HFI hl
  obtain ⟨B1, hB1⟩ : ∃ x, lstB sec = x := ⟨_, rfl⟩
  rw [hB1] at HE1 HE3 HL1 HL2
  obtain ⟨B2, hB2⟩ : ∃ x, B1 ++ numB h = x := ⟨_, rfl⟩
  have HE2 := Lib.hid hB2
  rw [hB2] at HE3 HL2
  have hcw : IntKind.u64.wrap (h : Int) = h := by rw [IntKind.wrap_u64]; omega
  have hcn : IntKind.u64.wrap (n : Int) = n := by rw [IntKind.wrap_u64]; omega
  have HHU : Hid (h < 18446744073709551616) := by show _ < _; omega
  have HNU : Hid (n < 18446744073709551616) := by show _ < _; omega
  have HNL := Lib.hid hl
  clear hs hk hn hB1 hB2 hpn
  go_enter Tryd.func6, Tryd.ntmps6
  have M1 := rg_mem HSO.out HK0.out.bk
  have c8 := M1.c8
  have c10 := M1.c10
  rw [HN.out] at c10
  have HS8 := Lib.hid (sl_rg HSO.out HK0.out.lt M1.r0)
  clear M1
  go_wp2_with fail
  refine (putBytes_any w none (some ⟨g, 0, none⟩) 0 0 8 8 [] sec Sl.nil HS8.out (by omega) (by omega)).mono ?_
  rw [HE1.out]
  rintro e w2 ⟨v, rfl, hown⟩
  obtain ⟨A2, C2, rfl, hsl, hcn, _⟩ := own_facts hown
  have HO2 := Lib.hid hown; have HT2 := Lib.hid hsl; have HK2 := Lib.hid (HK0.out.later hown.2)
  clear hown hsl hcn c8 c10 HS8
  have c8 := (rg_mem HSO.out HK2.out.bk).c8
  go_wp2_with fail
  clear c8
  refine (putNum_any w2 A2 B1.length C2 B1 HT2.out h HHU (by have := HL1.out; omega)).mono ?_
  rw [HE2.out]
  rintro e w3 ⟨v, rfl, hown⟩
  obtain ⟨A3, C3, rfl, hsl, hcn, _⟩ := own_facts hown
  have HB3 := Lib.hid (HO2.out.2.trans (hown.2.mono HO2.out.2.size)); have HT3 := Lib.hid hsl; have HK3 := Lib.hid (HK2.out.later hown.2)
  clear hown hsl hcn HT2 HK2 HO2
  have c10 := (rg_mem HSO.out HK3.out.bk).c10
  rw [HN.out] at c10
  go_wp2_with fail
  clear c10
  refine (putNum_any w3 A3 B2.length C3 B2 HT3.out n HNU (by have := HL2.out; omega)).mono ?_
  rw [HE3.out]
  rintro e w4 ⟨v, rfl, hown⟩
  obtain ⟨A4, C4, rfl, hsl, hcn, _⟩ := own_facts hown
  have HB4 := Lib.hid (HB3.out.trans (hown.2.mono HB3.out.size)); have HO4 := Lib.hid (own_base hown.1 HB3.out.size); have HK4 := Lib.hid (HK3.out.later hown.2)
  clear hown hsl hcn HT3 HK3 HB3
  have c10 := (rg_mem HSO.out HK4.out.bk).c10
  rw [HN.out] at c10
  go_wp2_with fail
  clear c10
  go_loopw [3, 5, 33] (fun bv _ kv wr => ∃ k : Nat, k ≤ n ∧ kv = .int .i64 k ∧ Hid (OwnB w.heap.size (savK sec h L k) w bv wr) ∧ Hid (LedAt wr lo g b (.slice A L.length c) sec h tp L)) (fun _ _ kv _ => n - (intOf kv).toNat)
  case atStart => exact ⟨0, Nat.zero_le _, rfl, ⟨HO4.out, HB4.out⟩, HK4⟩
  case round =>
    obtain ⟨k, hk, rfl, HO, HK⟩ := hrel
    obtain ⟨Ak, Ck, rfl, hsl, _, _⟩ := own_facts HO.out
    have hnn := HNL.out
    by_cases hlt : k < n
    · have hki : (k : Int) < n := by omega
      have hk0 : (0 : Int) ≤ k := by omega
      obtain ⟨T, hT⟩ : ∃ T, L[k]? = some T := ⟨L[k]'(by rw [HN.out]; omega), List.getElem?_eq_getElem _⟩
      have hsd : Sl wr wr.heap.size 8 A n (cellsD L) := by have := Sl.of_own HK.out.row; rwa [HN.out] at this
      obtain ⟨b2, o, rfl, _, _⟩ := hsd.spot (by omega) (by omega)
      have hr : wr.rangeAt b2 (o + k * 8) (dl T) := sl_dgl hsd HLO.out hT
      have HTO : Hid (DgOk T) := HLO.out T (List.mem_of_getElem? hT)
      have HR := Lib.hid hr
      have HSK := Lib.hid (HSN.out k T hT)
      have HXL := Lib.hid (HSL.out k)
      obtain ⟨X, hX⟩ : ∃ X, savK sec h L k = X := ⟨_, rfl⟩
      rw [hX] at HSK HXL HO hsl ⊢
      have HTk := Lib.hid hsl
      clear hr hsd hT hX hsl
      go_wp2_with (first
        | (with_reducible refine wpList_load_mid rfl 23 _ rfl b2 (o + k * 8) rfl (dl T) _ HR.out Tryd.underlying23 rfl (hdg_size _ HTO.out) ?_)
        | (with_reducible refine stop_store 23 _ _ rfl ?_))
      refine StopD.go ?_
      obtain ⟨g5, hg5⟩ : ∃ g, wr.heap.size = g := ⟨_, rfl⟩
      have hbn : Below wr.heap.size wr (wr.alloc (.cells #[.int .u8 0, .int .u8 0, .int .u8 0, .int .u8 0, .int .u8 0, .int .u8 0, .int .u8 0, .int .u8 0] 23)) := below_new wr _
      have kt : Bk (wr.alloc (.cells #[.int .u8 0, .int .u8 0, .int .u8 0, .int .u8 0, .int .u8 0, .int .u8 0, .int .u8 0, .int .u8 0] 23)) g5 23 ([] ++ (dl zeroD ++ [])) := by rw [← hg5]; exact Bk.new' wr _ #[.int .u8 0, .int .u8 0, .int .u8 0, .int .u8 0, .int .u8 0, .int .u8 0, .int .u8 0, .int .u8 0] rfl
      rw [hg5]
      refine wpList_store_part rfl 23 _ _ rfl g5 0 (.agg (dl T).toArray) (dl T) rfl rfl rfl 23 [] (dl zeroD) [] kt rfl (by rw [dl_len, dl_len, HTO.out.len]; rfl) (hdg_size _ HTO.out) (dl_one' _) ?_
      intro w5 hp
      have hbn : Below wr.heap.size wr w5 := hbn.grown hp.only hbn.size (fun q hq => by injection hq with hq; omega)
      have HT5 : Hid (Bk w5 g5 23 (dl T)) := by show Bk _ _ _ _; have := hp.bk; simpa using this
      clear hp kt
      clear hg5
      have HT55 := Lib.hid (HTk.out.later hbn); have HB5 := Lib.hid (HO.out.2.trans (hbn.mono HO.out.2.size)); have HK5 := Lib.hid (HK.out.later hbn)
      have HS5 := Lib.hid (sl_rg HTO.out HT5.out.lt (Bk.range (pre := []) (post := []) (by simpa using HT5.out) rfl))
      clear hbn HO HK HTk HR
      go_wp2_with fail
      refine (putBytes_any w5 Ak (some ⟨g5, 0, none⟩) X.length Ck 8 8 X T HT55.out HS5.out (by have := HXL.out; omega) (by omega)).mono ?_
      rw [← HSK.out]
      rintro e w6 ⟨v, rfl, hown⟩
      obtain ⟨A6, C6, rfl, hsl, hcn, _⟩ := own_facts hown
      have HO6 : Hid (OwnB w.heap.size (savK sec h L (k + 1)) w (.slice A6 (savK sec h L (k + 1)).length C6) w6) := ⟨own_base hown.1 HB5.out.size, HB5.out.trans (hown.2.mono HB5.out.size)⟩
      have HK6 := Lib.hid (HK5.out.later hown.2)
      clear hown hsl hcn HT55 HK5 HB5
      go_wp2_with fail
      go_roundw
      case rel => exact ⟨k + 1, hlt, by go_num, HO6, HK6⟩
      case measure => simp [intOf]; omega
    · have hki : ¬ ((k : Int) < n) := by omega
      obtain rfl : k = n := by omega
      rw [HFI.out] at HO ⊢
      go_wp2_with fail
      go_ret
      exact ⟨_, rfl, HO.out⟩
end Go.Proofs.YtakfdlokgddaoaaDoor
