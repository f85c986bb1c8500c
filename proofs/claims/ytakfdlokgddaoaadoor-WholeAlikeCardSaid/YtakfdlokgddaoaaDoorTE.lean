/- Trees are made. Trees: their roots, their leaves. -/
import Derived.Test.YtakfdlokgddaoaaDoorTD
/-! Trees are made. -/
namespace Go.Proofs.YtakfdlokgddaoaaDoor
open Go.RowKit

theorem tree_size : (Tryd.prog.info? 114).map (·.size) = some 14 := by kernel_rfl
def zeroC : Array Value := #[.int .u8 0, .int .u8 0, .int .u8 0, .int .u8 0, .int .u8 0, .int .u8 0, .int .u8 0, .int .u8 0]
theorem make_dg (N : Nat) (hN : N ≤ 4096) (W : World) : (Instr.makeSlice 32 (.int .i64 (N : Int)) (.int .i64 (N : Int))).run Tryd.prog W = .ok (.slice (some ⟨W.heap.size, 0, none⟩) N N) (W.alloc (.cells (madeCells zeroC (N * 8)) 23)) := by
  obtain ⟨d0, hdi, hd0, hd1, hd2⟩ := info_parts Tryd.infoDg
  have := run_make (P := Tryd.prog) W 32 23 d0 (.agg (dgA zeroD)) Tryd.underlying32 hdi hd0 .i64 .i64 N N (by omega) (Int.le_refl _) (by rw [hd2]; omega) (by omega)
  rw [hd1, Int.toNat_natCast] at this
  exact this
theorem one_cells {w w' : World} {g L b bq N C q : Nat} {a0 a1 a2 a3 a4 a5 a6 a7 : Int} (hc : w.cell? ⟨g, L, none⟩ = some (.slice (some ⟨bq, 0, none⟩) N C)) (hx : w.rangeAt b q ([a0, a1, a2, a3, a4, a5, a6, a7].map (Value.int .u8))) (hb : Below w.heap.size w w') (hg : g < w.heap.size) (hbl : b < w.heap.size) :
    w'.cell? ⟨g, L, none⟩ = some (.slice (some ⟨bq, 0, none⟩) N C) ∧ w'.cell? ⟨b, q, none⟩ = some (.int .u8 a0) ∧ w'.cell? ⟨b, q + 1, none⟩ = some (.int .u8 a1) ∧ w'.cell? ⟨b, q + 2, none⟩ = some (.int .u8 a2) ∧ w'.cell? ⟨b, q + 3, none⟩ = some (.int .u8 a3) ∧ w'.cell? ⟨b, q + 4, none⟩ = some (.int .u8 a4) ∧ w'.cell? ⟨b, q + 5, none⟩ = some (.int .u8 a5) ∧ w'.cell? ⟨b, q + 6, none⟩ = some (.int .u8 a6) ∧ w'.cell? ⟨b, q + 7, none⟩ = some (.int .u8 a7) :=
  ⟨(hb.cell (p := ⟨g, L, none⟩) hg).trans hc, range8 (range_below hx hb hbl)⟩
theorem one_cells_put {w w' : World} {g L b bq N C q g2 : Nat} {a0 a1 a2 a3 a4 a5 a6 a7 : Int} (hc : w.cell? ⟨g, L, none⟩ = some (.slice (some ⟨bq, 0, none⟩) N C)) (hx : w.rangeAt b q ([a0, a1, a2, a3, a4, a5, a6, a7].map (Value.int .u8))) (hb : w.grownBy w' (some g2)) (hg : g < w.heap.size) (hbl : b < w.heap.size) (hn1 : g ≠ g2) (hn2 : b ≠ g2) :
    w'.cell? ⟨g, L, none⟩ = some (.slice (some ⟨bq, 0, none⟩) N C) ∧ w'.cell? ⟨b, q, none⟩ = some (.int .u8 a0) ∧ w'.cell? ⟨b, q + 1, none⟩ = some (.int .u8 a1) ∧ w'.cell? ⟨b, q + 2, none⟩ = some (.int .u8 a2) ∧ w'.cell? ⟨b, q + 3, none⟩ = some (.int .u8 a3) ∧ w'.cell? ⟨b, q + 4, none⟩ = some (.int .u8 a4) ∧ w'.cell? ⟨b, q + 5, none⟩ = some (.int .u8 a5) ∧ w'.cell? ⟨b, q + 6, none⟩ = some (.int .u8 a6) ∧ w'.cell? ⟨b, q + 7, none⟩ = some (.int .u8 a7) :=
  ⟨(World.cell?_of_block (a := ⟨g, L, none⟩) (hb.block g hg (by intro e; injection e with e; exact hn1 e))).trans hc, range8 (range_only hx hb hbl hn2)⟩
theorem low8 (w : World) (a : List Int) (ha : DgOk a) :
    Calls Tryd.prog 53 #[.agg (dgA a)] w fun e w' => ∃ o0 o1 o2 o3 o4 o5 o6 o7 : Int, e = .returned (.agg #[.int .u8 o0, .int .u8 o1, .int .u8 o2, .int .u8 o3, .int .u8 o4, .int .u8 o5, .int .u8 o6, .int .u8 o7]) ∧ Hid (lowI a = [o0, o1, o2, o3, o4, o5, o6, o7]) ∧ Below w.heap.size w w' := by
  obtain ⟨o0, o1, o2, o3, o4, o5, o6, o7, ho⟩ := list8 (lowI a) (lowI_ok _).len
  refine (low_any w a ha).mono ?_
  rintro e w' ⟨rfl, hb⟩
  exact ⟨o0, o1, o2, o3, o4, o5, o6, o7, by rw [ho]; rfl, ho, hb⟩
theorem grow_step {w0 wr : World} {hi h L N2 : Nat} {T : Tr} {ls : List (List Int)} {ns : Nat → List (List Int)} (t : TreeAt wr w0.heap.size hi T h L ls ns) (hL : L ≤ h) (hN : 2 ^ (h - L) = N2) (hb : Below w0.heap.size w0 wr) :
    TreeAt (((wr.setCell ⟨T.g, 1 + L, none⟩ (.slice (some ⟨wr.heap.size, 0, none⟩) N2 N2)).alloc (.cells (madeCells zeroC (N2 * 8)) 23)).drew) w0.heap.size (wr.heap.size + 1) (T.more L wr.heap.size N2) h (L + 1) ls (updN ns L (List.replicate N2 zeroD)) ∧
    Below w0.heap.size w0 (((wr.setCell ⟨T.g, 1 + L, none⟩ (.slice (some ⟨wr.heap.size, 0, none⟩) N2 N2)).alloc (.cells (madeCells zeroC (N2 * 8)) 23)).drew) := by
  subst hN
  have hrw : ∀ W, Bk W wr.heap.size 23 (cellsD (List.replicate (2 ^ (h - L)) zeroD)) → RowAt W wr.heap.size (2 ^ (h - L)) (List.replicate (2 ^ (h - L)) zeroD) := fun W hW => by
    have := RowAt.all (zeros_ok _) hW
    rw [List.length_replicate] at this; exact this
  refine ⟨t.grow hL wr.heap.size (2 ^ (h - L)) t.hih _ (zeros_ok _) (by simp) ((Bk.set_ t.row (1 + L) _).alloc _).drew (hrw _ (Bk.at_ _ _ (madeCells zeroC (_ * 8)) (by simp [World.setCell]) (made8 _)).drew) fun j hj hne => ?_, ?_⟩
  · show (World.alloc _ _).heap[j]? = _
    rw [Below.heap_alloc _ _ _ (by simpa [World.setCell] using hj)]
    exact Below.heap_setCell wr ⟨T.g, 1 + L, none⟩ _ j hne
  · exact (((hb.setCell (p := ⟨T.g, 1 + L, none⟩) t.blo.1 _)).alloc (by have := hb.size; simpa [World.setCell] using this) _).drew
theorem new_none (w : World) (A : Option Addr) (n c : Nat) (hok : ¬ (1 ≤ n ∧ n ≤ 4096)) :
    Calls Tryd.prog 26 #[.slice A n c] w fun e w' => e = .returned (.tuple #[.pointer none, .int .i64 2]) ∧ w = w' := by
  have HHT := Lib.hid (fun w => theight_any n w)
  have HV := Lib.hid (show heightV n = -1 by rw [heightV, if_pos (by omega)])
  rw [HV.out] at HHT
  go_enter Tryd.func26, Tryd.ntmps26
  go_wp2_with (go_at_call 51; refine (HHT.out _).mono ?_; rintro e w2 ⟨rfl, rfl⟩)
  go_ret2
  exact ⟨rfl, rfl⟩

set_option maxRecDepth 20000 in
set_option maxHeartbeats 1000000 in
theorem new_any (w : World) (A : Option Addr) (n c : Nat) (ls : List (List Int)) (ho : DsOk ls) (hs : Sl w w.heap.size 8 A n (cellsD ls)) (hok : 1 ≤ n ∧ n ≤ 4096) :
    Calls Tryd.prog 26 #[.slice A n c] w fun e w' => ∃ (T : Tr) (hi : Nat) (ns : Nat → List (List Int)), e = .returned (.tuple #[.pointer (some ⟨T.g, 0, none⟩), .int .i64 0]) ∧ TreeAt w' w.heap.size hi T (heightI n) (heightI n + 1) ls ns ∧ (∀ j, j ≤ heightI n → ns j = levelI ls (heightI n) j) ∧ Below w.heap.size w w' := by
  have hlen := hs.dgs ho
  have hn := hs.le
  have HHT := Lib.hid (fun w => theight_any n w)
  have HV := Lib.hid (show heightV n = heightI n by rw [heightV, if_neg (by omega)])
  have h12 := height_le hok.2
  have hup := height_up hok.2
  rw [HV.out] at HHT
  obtain ⟨h, hh⟩ : ∃ h, heightI n = h := ⟨_, rfl⟩
  rw [hh] at HHT h12 hup ⊢
  obtain ⟨hsh, hpl⟩ := shl_num h h12
  obtain ⟨N0, hN0⟩ : ∃ N0, 2 ^ h = N0 := ⟨_, rfl⟩
  rw [hN0] at hsh hpl
  have hneg : decide ((h : Int) < 0) = false := by simp <;> omega
  have HS := Lib.hid hs; have HO := Lib.hid ho; have HL := Lib.hid hlen; have HN0 := Lib.hid hN0; have HUP := Lib.hid hup
  clear hs ho hlen hh HV hN0 hup
  go_enter Tryd.func26, Tryd.ntmps26
  go_wp2_with (go_at_call 51; refine (HHT.out _).mono ?_; rintro e w2 ⟨rfl, rfl⟩)
  refine (clone_dg w A n c ls HO.out HS.out (by omega)).mono ?_
  rintro e w2 ⟨⟨v, rfl, hown⟩, hb2⟩
  obtain ⟨rfl, h0, _⟩ | ⟨bl, cl, ys, rfl, hbg, hbk, hcl, hcm, hyl, hyt⟩ := own_bk hown
  · omega
  have HB2 := Lib.hid hb2; have HBK := Lib.hid hbk
  have HLV : Hid (cl ≤ 9223372036854775807 ∧ w.heap.size ≤ bl ∧ n ≤ cl ∧ ys.length = cl * 8 ∧ ys.take (n * 8) = cellsD ls) := ⟨hcm, hbg, hcl, hyl, hyt⟩
  clear hown hb2 hbk hcm hbg hcl hyl hyt
  go_upto_region 5 with fail
  obtain ⟨w3, hw3⟩ : ∃ w3, w2.alloc (.cells #[.slice (some ⟨bl, 0, none⟩) n cl, .slice none 0 0, .slice none 0 0, .slice none 0 0, .slice none 0 0, .slice none 0 0, .slice none 0 0, .slice none 0 0, .slice none 0 0, .slice none 0 0, .slice none 0 0, .slice none 0 0, .slice none 0 0, .slice none 0 0] 114) = w3 := ⟨_, rfl⟩
  obtain ⟨g, hg⟩ : ∃ g, w2.heap.size = g := ⟨_, rfl⟩
  have hb3 : Below w.heap.size w w3 := hw3 ▸ HB2.out.trans ((below_new w2 _).mono HB2.out.size)
  have t0 : TreeAt w3 w.heap.size (g + 1) ⟨g, bl, cl, fun _ => 0, fun _ => 0⟩ h 0 ls (fun _ => []) := by
    have hL := HL.out
    have hbl : bl < w2.heap.size := Bk.lt HBK.out
    refine ⟨?_, HO.out, ⟨ys, hw3 ▸ Bk.alloc HBK.out _, HLV.out.2.2.2.1, by rw [hL]; exact HLV.out.2.2.2.2⟩, ⟨by rw [hL]; omega, by rw [hL]; exact HLV.out.2.2.1, HLV.out.1⟩, by rw [hL]; exact HUP.out, fun l hl => absurd hl (by omega), ⟨by omega, h12⟩, fun l hl => absurd hl (by omega), fun l _ hl => absurd hl (by omega), ⟨by rw [← hg]; exact HB2.out.size, HLV.out.2.1, fun l hl => absurd hl (by omega)⟩, ⟨by show g < _; omega, by show bl < _; omega, fun l hl => absurd hl (by omega)⟩, by rw [← hw3, ← hg]; simp⟩
    rw [← hw3, hL]
    exact Bk.at_ _ _ _ hg rfl
  have hg3 : w3.heap.size = g + 1 := by rw [← hw3, ← hg]; simp
  have HT0 := Lib.hid t0; have HB3 := Lib.hid hb3; have HG3 := Lib.hid hg3
  have c1 : w3.cell? ⟨g, 1, none⟩ = some (.slice none 0 0) := by rw [t0.row.cell]; rfl
  have f1 := Bk.frozen t0.row 1
  have l1 := Bk.lt t0.row
  simp only at f1 l1
  have ne1 : ¬ g = w3.heap.size := by omega
  have hsh' : IntKind.i64.wrap (2 ^ h) = (N0 : Int) := by rw [IntWalk.i64_left]; exact hsh
  have hplI : (N0 : Int) ≤ 4096 := by omega
  rw [hg, hw3]
  clear hw3 t0 hb3 HB2 HBK HLV hg hg3
  have hmk := make_dg N0 hpl
  go_region
  obtain ⟨w4, hw4⟩ : ∃ w4, ((w3.setCell ⟨g, 1, none⟩ (.slice (some ⟨w3.heap.size, 0, none⟩) N0 N0)).alloc (.cells (madeCells zeroC (N0 * 8)) 23)).drew = w4 := ⟨_, rfl⟩
  have r4 : Bk w4 g 114 ((treeCells ⟨g, bl, cl, fun _ => 0, fun _ => 0⟩ ls.length h 0).set 1 (.slice (some ⟨w3.heap.size, 0, none⟩) N0 N0)) := hw4 ▸ ((Bk.set_ HT0.out.row 1 _).alloc _).drew
  have b4 : Bk w4 w3.heap.size 23 (cellsD (List.replicate N0 zeroD)) := hw4 ▸ (Bk.at_ _ _ (madeCells zeroC (N0 * 8)) (by simp [World.setCell]) (made8 N0)).drew
  have k4 : ∀ j, j < w3.heap.size → j ≠ g → w4.heap[j]? = w3.heap[j]? := fun j hj hne => by
    rw [← hw4]
    show (World.alloc _ _).heap[j]? = _
    rw [Below.heap_alloc _ _ _ (by simpa [World.setCell] using hj)]
    exact Below.heap_setCell w3 ⟨g, 1, none⟩ _ j hne
  have hb4 : Below w.heap.size w w4 := by
    rw [← hw4]
    exact (((HB3.out.setCell (p := ⟨g, 1, none⟩) (by have := HT0.out.blo.1; exact this) _)).alloc (by have := HB3.out.size; simpa [World.setCell] using this) _).drew
  have t1 := HT0.out.grow (w' := w4) (by omega) w3.heap.size N0 (by rw [HG3.out]; omega) (List.replicate N0 zeroD) (zeros_ok _) (by rw [Nat.sub_zero, HN0.out]; simp) (by rw [Nat.sub_zero, HN0.out]; exact r4) (by have := RowAt.all (zeros_ok N0) b4; rw [List.length_replicate] at this; exact this) k4
  obtain ⟨T1, hT1⟩ : ∃ T1, (Tr.more ⟨g, bl, cl, fun _ => 0, fun _ => 0⟩ 0 w3.heap.size N0) = T1 := ⟨_, rfl⟩
  have hTg : T1.g = g := by rw [← hT1]; rfl
  rw [hT1] at t1
  rw [hw4]
  subst hTg
  have HT1 : Hid (∃ hi ns, TreeAt w4 w.heap.size hi T1 h 1 ls ns ∧ ns 0 = partI ls h 0 0) := ⟨_, _, t1, by rw [updN_at, partI_zero, Nat.sub_zero, HN0.out]⟩
  have HB4 := Lib.hid hb4
  clear hw4 r4 b4 k4 hb4 t1 hT1 HT0 HB3 HG3 c1 f1 l1 ne1 hmk
  go_wp2_with fail
  refine (word_any _ zeroD zeroD_ok _ (by decide)).mono ?_
  rintro e w5 ⟨rfl, hb5⟩
  rw [show wordI zeroD (bytesOf { data := #[110, 111, 110, 101] }) = lackI from rfl]
  have HB5 := Lib.hid (HB4.out.trans (hb5.mono HB4.out.size))
  have HT5 : Hid (∃ hi ns, TreeAt w5 w.heap.size hi T1 h 1 ls ns ∧ ns 0 = partI ls h 0 0) := by
    obtain ⟨hi, ns, t, e⟩ := HT1.out
    exact ⟨hi, ns, t.later hb5, e⟩
  clear hb5 HT1 HB4
  have HI := dg_info lackI lackI_ok
  have HOK := Lib.hid (dgA_one lackI)
  have HSZ : Hid ((dgA zeroD).size = (dgA lackI).size) := by show _ = _; rw [dgA_size, dgA_size, lackI_ok.len]; rfl
  have s1 : DgAt ((w5.alloc (.cells (dgA zeroD) 23)).setRow w5.heap.size (dgA lackI)) w5.heap.size 23 lackI := DgAt.row (dg_new w5 _ zeroD) _
  have hbb : Below w5.heap.size w5 ((w5.alloc (.cells (dgA zeroD) 23)).setRow w5.heap.size (dgA lackI)) := below_setRow (below_new w5 _) (Nat.le_refl _) _
  obtain ⟨w6, hw6⟩ : ∃ w6, (w5.alloc (.cells (dgA zeroD) 23)).setRow w5.heap.size (dgA lackI) = w6 := ⟨_, rfl⟩
  rw [hw6] at s1 hbb
  have HW6 := Lib.hid hw6
  have HGN := Lib.hid s1
  have HB6 := Lib.hid (HB5.out.trans (hbb.mono HB5.out.size))
  have HT6 : Hid (∃ hi ns, TreeAt w6 w.heap.size hi T1 h 1 ls ns ∧ ns 0 = partI ls h 0 0) := by
    obtain ⟨hi, ns, t, e⟩ := HT5.out
    exact ⟨hi, ns, t.later hbb, e⟩
  have c6 : w6.cell? ⟨T1.g, 1, none⟩ = some (.slice (some ⟨T1.bn 0, 0, none⟩) N0 (T1.cn 0)) := by
    obtain ⟨hi, ns, t, e⟩ := HT6.out
    have := t.ncell (l := 0) (by omega)
    rw [Nat.sub_zero, HN0.out] at this; exact this
  have hgn : w.heap.size ≤ w5.heap.size := HB5.out.size
  have HGN5 : Hid (T1.bn 0 < w5.heap.size ∧ T1.g < w5.heap.size) := by
    obtain ⟨hi, ns, t, e⟩ := HT5.out
    exact ⟨(t.nv 0 (by omega)).1.lt, Bk.lt t.row⟩
  clear s1 hbb hw6 HT5 HB5
  go_wp2_with (refine wpList_store_row rfl 23 _ _ rfl w5.heap.size (dgA lackI) rfl rfl 23 (dgA zeroD) (dg_new w5 _ zeroD).heap HI.out HSZ.out HOK.out ?_; rw [zero8, show List.replicate 8 (0 : Int) = zeroD from rfl, HW6.out])
  obtain ⟨gn, hgn'⟩ : ∃ gn, w5.heap.size = gn := ⟨_, rfl⟩
  rw [hgn'] at HGN hgn HGN5 ⊢
  clear HI HOK HSZ HW6 hgn'
  go_loopw [34] (fun is wr => ∃ (j hi : Nat) (ns : Nat → List (List Int)), j ≤ N0 ∧ is = .int .i64 j ∧ Hid (TreeAt wr w.heap.size hi T1 h 1 ls ns) ∧ Hid (ns 0 = partI ls h 0 j) ∧ Hid (DgAt wr gn 23 lackI) ∧ Hid (Below w.heap.size w wr)) (fun is _ => N0 - (intOf is).toNat)
  case atStart =>
    obtain ⟨hi, ns, t, e⟩ := HT6.out
    exact ⟨0, hi, ns, by omega, rfl, t, e, HGN.out, HB6.out⟩
  case round =>
    obtain ⟨j, hi, ns, hj, rfl, HT, HNS, HGL, HB⟩ := hrel
    clear c6
    have hcell : wr.cell? ⟨T1.g, 1, none⟩ = some (.slice (some ⟨T1.bn 0, 0, none⟩) N0 (T1.cn 0)) := by
      have := HT.out.ncell (l := 0) (by omega)
      rw [Nat.sub_zero, HN0.out] at this; exact this
    by_cases hlt : j < N0
    · have hj1 : (j : Int) < N0 := by omega
      have hj0 : (0 : Int) ≤ j := by omega
      have hpj : j < 2 ^ (h - 0) := by rw [Nat.sub_zero, HN0.out]; exact hlt
      have h1m : 0 < 1 := by omega
      obtain ⟨⟨ys0, hbk0, hyl0, hyt0⟩, hnl0, hno0⟩ := HT.out.nv 0 h1m
      have HY0 := Lib.hid (show ys0.length = T1.cn 0 * 8 ∧ ys0.take ((ns 0).length * 8) = cellsD (ns 0) from ⟨hyl0, hyt0⟩)
      clear hyl0 hyt0
      obtain ⟨zz, hz⟩ : ∃ zz, (ns 0)[j]? = some zz := ⟨(ns 0)[j]'(by rw [hnl0]; exact hpj), List.getElem?_eq_getElem _⟩
      have hzo := hno0 zz (List.mem_of_getElem? hz)
      have hrz := sl_dg (HT.out.nsl h1m) hno0 hz
      rw [Nat.zero_add] at hrz
      obtain ⟨z0, z1, z2, z3, z4, z5, z6, z7, rfl⟩ := list8 zz hzo.len
      have hgl : T1.g < wr.heap.size := Bk.lt HT.out.row
      have hbl0 : T1.bn 0 < wr.heap.size := Bk.lt hbk0
      have hne2 : T1.g ≠ T1.bn 0 := Bk.ne_ HT.out.row hbk0 (by decide)
      have hlo0 := HT.out.blo.2.2 0 h1m
      have HRZ := Lib.hid hrz; have HBK0 := Lib.hid hbk0; have HNO0 := Lib.hid hno0
      have hnj := nodeI_zero ls j
      obtain ⟨b2', hb2'⟩ : ∃ b2', T1.bn 0 = b2' := ⟨_, rfl⟩
      obtain ⟨C0, hC0⟩ : ∃ C0, T1.cn 0 = C0 := ⟨_, rfl⟩
      rw [hC0] at hcell
      have HC0 := Lib.hid hC0
      rw [hb2'] at hcell hbl0 hne2 hlo0 HRZ HBK0
      have HB2' := Lib.hid hb2'
      obtain ⟨nl, hnl⟩ : ∃ nl, nodeI ls 0 j = nl := ⟨_, rfl⟩
      have HST : ∀ w' : World, wr.grownBy w' (some b2') → RowAt w' b2' (T1.cn 0) ((ns 0).set j nl) → TreeAt w' w.heap.size hi T1 h 1 ls (updN ns 0 ((ns 0).set j nl)) ∧ updN ns 0 ((ns 0).set j nl) 0 = partI ls h 0 (j + 1) := fun w' hg hb => by
        refine ⟨HT.out.level h1m (by rw [HB2'.out]; exact hg) _ (set_ok HNO0.out _ (by rw [← hnl]; exact nodeI_ok _ _ _)) (by rw [List.length_set]; exact hnl0) (by rw [HB2'.out]; exact hb), ?_⟩
        rw [updN_at, HNS.out, ← hnl, partI_set _ _ _ _ hpj]
      have HSTEP := Lib.hid HST
      have hlj : j < (ns 0).length := by rw [hnl0]; exact hpj
      clear hz hzo hrz hbk0 hno0 hb2' hC0 HST hnl0 hpj h1m
      by_cases hleaf : j < n
      · have hl1 : (j : Int) < n := by omega
        obtain ⟨b, o, rfl, hbb, _⟩ := HS.out.spot (by omega) (by omega)
        obtain ⟨x, hx⟩ : ∃ x, ls[j]? = some x := ⟨ls[j]'(by rw [HL.out]; exact hleaf), List.getElem?_eq_getElem _⟩
        have hxo := HO.out x (List.mem_of_getElem? hx)
        have hrx := sl_dg (HS.out.below HB.out) HO.out hx
        rw [hx, leafN, hnl] at hnj
        obtain ⟨a0, a1, a2, a3, a4, a5, a6, a7, rfl⟩ := list8 x hxo.len
        have HX := Lib.hid hxo; have HRX := Lib.hid hrx; have HNJ := Lib.hid hnj
        have hbw : b < wr.heap.size := by have := HB.out.size; omega
        have hneb : b ≠ b2' := by omega
        have hS : wr.cell? ⟨T1.g, 1, none⟩ = some (.slice (some ⟨b2', 0, none⟩) N0 C0) ∧ wr.cell? ⟨b, o + j * 8, none⟩ = some (.int .u8 a0) ∧ wr.cell? ⟨b, o + j * 8 + 1, none⟩ = some (.int .u8 a1) ∧ wr.cell? ⟨b, o + j * 8 + 2, none⟩ = some (.int .u8 a2) ∧ wr.cell? ⟨b, o + j * 8 + 3, none⟩ = some (.int .u8 a3) ∧ wr.cell? ⟨b, o + j * 8 + 4, none⟩ = some (.int .u8 a4) ∧ wr.cell? ⟨b, o + j * 8 + 5, none⟩ = some (.int .u8 a5) ∧ wr.cell? ⟨b, o + j * 8 + 6, none⟩ = some (.int .u8 a6) ∧ wr.cell? ⟨b, o + j * 8 + 7, none⟩ = some (.int .u8 a7) := ⟨hcell, range8 hrx⟩
        clear hx hxo hrx hnj hnl
        have HCELL := Lib.hid hcell
        go_wp2_with fail
        go_region_held3 (fun w' => w'.cell? ⟨T1.g, 1, none⟩ = some (.slice (some ⟨b2', 0, none⟩) N0 C0) ∧ w'.cell? ⟨b, o + j * 8, none⟩ = some (.int .u8 a0) ∧ w'.cell? ⟨b, o + j * 8 + 1, none⟩ = some (.int .u8 a1) ∧ w'.cell? ⟨b, o + j * 8 + 2, none⟩ = some (.int .u8 a2) ∧ w'.cell? ⟨b, o + j * 8 + 3, none⟩ = some (.int .u8 a3) ∧ w'.cell? ⟨b, o + j * 8 + 4, none⟩ = some (.int .u8 a4) ∧ w'.cell? ⟨b, o + j * 8 + 5, none⟩ = some (.int .u8 a5) ∧ w'.cell? ⟨b, o + j * 8 + 6, none⟩ = some (.int .u8 a6) ∧ w'.cell? ⟨b, o + j * 8 + 7, none⟩ = some (.int .u8 a7)) (first | (with_reducible exact hS3) | (with_reducible exact hS2) | (with_reducible exact hS) | go_keep)
          (first
            | (go_at_call 53; refine (low8 _ [a0, a1, a2, a3, a4, a5, a6, a7] HX.out).mono ?_; rintro e w5 ⟨o0, o1, o2, o3, o4, o5, o6, o7, rfl, ho, hb5⟩; have E5 : Hid (Below wr.heap.size wr w5) := ((below_draws wr _ 1).trans hb5); have hS2 := one_cells HCELL.out HRX.out E5.out hgl hbw; have hS3 := one_cells_put HCELL.out HRX.out (only_put8at (only_below (only_refl wr b2') E5.out) (j * 8) o0 o1 o2 o3 o4 o5 o6 o7) hgl hbw hne2 hneb; obtain ⟨zc0, zc1, zc2, zc3, zc4, zc5, zc6, zc7⟩ := range8 (range_below HRZ.out E5.out hbl0); have zf := Bk.frozen (HBK0.out.later E5.out); have zl := Bk.lt (HBK0.out.later E5.out); clear hb5))
        have hgr := only_put8at (only_below (only_refl wr b2') E5.out) (j * 8) o0 o1 o2 o3 o4 o5 o6 o7
        have hbk := Bk.put8at (HBK0.out.later E5.out) (j * 8) o0 o1 o2 o3 o4 o5 o6 o7
        have hbr := row_put HY0.out.1 HY0.out.2 HNO0.out hlj o0 o1 o2 o3 o4 o5 o6 o7 hbk
        rw [← ho.out, ← HNJ.out] at hbr
        have hst := HSTEP.out _ hgr hbr
        have hgnl := Bk.grown (Bk.later HGL.out E5.out) (only_put8at (only_refl _ b2') (j * 8) o0 o1 o2 o3 o4 o5 o6 o7) (by intro e; injection e with e; have := HGN5.out.1; rw [HB2'.out] at this; omega)
        have hbel := below_only (g := b2') HB.out hgr HB.out.size hlo0
        have HST := Lib.hid hst; have HGNL := Lib.hid hgnl; have HBEL := Lib.hid hbel
        clear hgr hbk hbr hst hgnl hbel hS hS2 hS3 zc0 zc1 zc2 zc3 zc4 zc5 zc6 zc7 zf zl
        go_wp2_with fail
        go_roundw
        case rel => exact ⟨j + 1, hi, _, by omega, by go_num, HST.out.1, HST.out.2, HGNL.out, HBEL.out⟩
        case measure => simp [intOf]; omega
      · have hl1 : decide ((j : Int) < n) = false := by simp <;> omega
        have hl2 : decide (j < n) = false := by simp <;> omega
        rw [List.getElem?_eq_none (by rw [HL.out]; omega), leafN, hnl] at hnj
        obtain ⟨q0, q1, q2, q3, q4, q5, q6, q7, hlk⟩ := list8 lackI lackI_ok.len
        have HLK := Lib.hid hlk; have HNJ := Lib.hid hnj
        have hgl8 := HGL.out
        rw [hlk] at hgl8
        obtain ⟨c0, c1, c2, c3, c4, c5, c6, c7⟩ := cells8 hgl8
        obtain ⟨zc0, zc1, zc2, zc3, zc4, zc5, zc6, zc7⟩ := range8 HRZ.out
        have zf := Bk.frozen HBK0.out
        have zl := Bk.lt HBK0.out
        have hgnb : ¬ gn = b2' := by have := HGN5.out.1; rw [HB2'.out] at this; omega
        clear hlk hnj hgl8 hnl
        go_wp2_with fail
        go_region
        have hgr := only_drew (only_put8at (only_refl wr b2') (j * 8) q0 q1 q2 q3 q4 q5 q6 q7)
        have hbk := (Bk.put8at HBK0.out (j * 8) q0 q1 q2 q3 q4 q5 q6 q7).drew
        have hbr := row_put HY0.out.1 HY0.out.2 HNO0.out hlj q0 q1 q2 q3 q4 q5 q6 q7 hbk
        rw [← HLK.out, ← HNJ.out] at hbr
        have hst := HSTEP.out _ hgr hbr
        have hgnl := Bk.grown HGL.out hgr (by intro e; injection e with e; exact hgnb e)
        have hbel := below_only (g := b2') HB.out hgr HB.out.size hlo0
        have HST := Lib.hid hst; have HGNL := Lib.hid hgnl; have HBEL := Lib.hid hbel
        clear hgr hbk hbr hst hgnl hbel zc0 zc1 zc2 zc3 zc4 zc5 zc6 zc7 zf zl c0 c1 c2 c3 c4 c5 c6 c7
        go_wp2_with fail
        go_roundw
        case rel => exact ⟨j + 1, hi, _, by omega, by go_num, HST.out.1, HST.out.2, HGNL.out, HBEL.out⟩
        case measure => simp [intOf]; omega
    · obtain rfl : j = N0 := by omega
      have hns0 := HNS.out
      have e0 : partI ls h 0 j = levelI ls h 0 := by
        have := partI_all ls h 0
        rw [Nat.sub_zero, HN0.out] at this
        exact this
      rw [e0] at hns0
      obtain ⟨g, hg⟩ : ∃ g, T1.g = g := ⟨_, rfl⟩
      have HT7 : Hid (∃ T hi ns, TreeAt wr w.heap.size hi T h 1 ls ns ∧ (∀ j, j ≤ 0 → ns j = levelI ls h j) ∧ T.g = g) := ⟨T1, hi, ns, HT.out, fun q hq => by
        rw [show q = 0 by omega]; exact hns0, hg⟩
      have HB7 := Lib.hid HB.out
      rw [hg] at hcell
      go_wp2_with fail
      rw [hg]
      clear hns0 e0 hg HT HNS HGL HGN5 HGN HT6 HB6 hcell hsh hsh' HB
      go_loopw [63] (fun is wr => ∃ (lv hi : Nat) (T : Tr) (ns : Nat → List (List Int)), lv ≤ h ∧ is = .int .i64 lv ∧ Hid (TreeAt wr w.heap.size hi T h (lv + 1) ls ns) ∧ Hid (∀ j, j ≤ lv → ns j = levelI ls h j) ∧ Hid (T.g = g) ∧ Hid (Below w.heap.size w wr)) (fun is _ => h - (intOf is).toNat)
      case atStart =>
        obtain ⟨T, hi, ns, t, e, eg⟩ := HT7.out
        exact ⟨0, hi, T, ns, by omega, rfl, t, e, eg, HB7.out⟩
      case round =>
        obtain ⟨lv, hi2, T, ns2, hlv, rfl, HT, HNS, HTG, HB⟩ := hrel
        by_cases hlt2 : lv < h
        · have hlv1 : (lv : Int) < h := by omega
          have hc1 := HT.out.ncell (l := lv) (by omega)
          have hp1 := HT.out.pow lv
          have hp2 := HT.out.pow (lv + 1)
          have hpd : 2 ^ (h - lv) = 2 * 2 ^ (h - (lv + 1)) := by rw [show h - lv = (h - (lv + 1)) + 1 by omega, Nat.pow_succ]; omega
          have hrow := HT.out.row
          rw [HTG.out] at hc1 hrow
          obtain ⟨L, hL⟩ : ∃ L, lv + 1 = L := ⟨_, rfl⟩
          have hc2 : wr.cell? ⟨g, 1 + L, none⟩ = some (.slice none 0 0) := by
            rw [hrow.cell, treeCells_node _ _ _ _ _ (by omega), nodeV, if_neg (by omega)]
          have f2 := Bk.frozen hrow (1 + L)
          have l2 := Bk.lt hrow
          obtain ⟨N1, hN1⟩ : ∃ N1, 2 ^ (h - lv) = N1 := ⟨_, rfl⟩
          rw [hL] at hp2 hpd
          obtain ⟨N2, hN2⟩ : ∃ N2, 2 ^ (h - L) = N2 := ⟨_, rfl⟩
          rw [hN1] at hc1 hp1 hpd
          rw [hN2] at hp2 hpd
          have hdv : (N1 : Int) / 2 = (N2 : Int) := by omega
          have hmk2 := make_dg N2 hp2
          have e1 : (lv : Int) + 1 = (L : Int) := by omega
          have w1 : IntKind.i64.wrap ((lv : Int) + 1) = (L : Int) := by rw [e1]; exact IntWalk.i64_in _ (by omega)
          have w2' : IntKind.i64.wrap (L : Int) = (L : Int) := IntWalk.i64_in _ (by omega)
          have w3' : IntKind.i64.wrap (N2 : Int) = (N2 : Int) := IntWalk.i64_in _ (by omega)
          have i1 : (0 : Int) ≤ (lv : Int) := by omega
          have i2 : (lv : Int) < 13 := by omega
          have i3 : (0 : Int) ≤ (L : Int) := by omega
          have i4 : (L : Int) < 13 := by omega
          have ne2 : ¬ g = wr.heap.size := by omega
          have HL' := Lib.hid hL; have HN2 := Lib.hid hN2; have HROW := Lib.hid hrow
          clear hN1 hN2 hpd hL hrow
          go_wp2_with fail
          go_region
          have hgs := grow_step (N2 := N2) (L := L) (by rw [← HL'.out]; exact HT.out) (by have := HL'.out; omega) HN2.out HB.out
          rw [HTG.out] at hgs
          obtain ⟨w8, hw8⟩ : ∃ w8, ((wr.setCell ⟨g, 1 + L, none⟩ (.slice (some ⟨wr.heap.size, 0, none⟩) N2 N2)).alloc (.cells (madeCells zeroC (N2 * 8)) 23)).drew = w8 := ⟨_, rfl⟩
          rw [hw8] at hgs
          rw [hw8]
          have HT8 : Hid (∃ ns, TreeAt w8 w.heap.size (wr.heap.size + 1) (T.more L wr.heap.size N2) h (L + 1) ls ns ∧ (∀ j, j ≤ lv → ns j = levelI ls h j) ∧ ns L = partI ls h L 0) :=
            ⟨_, hgs.1, fun q hq => (updN_far _ _ (by have := HL'.out; omega)).trans (HNS.out q hq), by rw [updN_at, partI_zero, HN2.out]⟩
          have HB8 := Lib.hid hgs.2
          obtain ⟨T2, hT2⟩ : ∃ T2, T.more L wr.heap.size N2 = T2 := ⟨_, rfl⟩
          obtain ⟨hi3, hhi3⟩ : ∃ hi3, wr.heap.size + 1 = hi3 := ⟨_, rfl⟩
          have HTG2 : Hid (T2.g = g) := by rw [← hT2]; exact HTG.out
          rw [hT2, hhi3] at HT8
          have c8 : w8.cell? ⟨g, 1 + L, none⟩ = some (.slice (some ⟨T2.bn L, 0, none⟩) N2 (T2.cn L)) := by
            obtain ⟨ns, t, _⟩ := HT8.out
            have := t.ncell (l := L) (by omega)
            rw [HN2.out, HTG2.out] at this; exact this
          clear hgs hw8 hT2 hhi3 hc1 hc2 f2 l2 hmk2 ne2 HROW HT HNS HTG HB
          go_wp2_with fail
          go_loopw [89] (fun is wt => ∃ (k : Nat) (ns : Nat → List (List Int)), k ≤ N2 ∧ is = .int .i64 k ∧ Hid (TreeAt wt w.heap.size hi3 T2 h (L + 1) ls ns) ∧ Hid (∀ j, j ≤ lv → ns j = levelI ls h j) ∧ Hid (ns L = partI ls h L k) ∧ Hid (Below w.heap.size w wt)) (fun is _ => N2 - (intOf is).toNat)
          case atStart =>
            obtain ⟨ns, t, e1, e2⟩ := HT8.out
            exact ⟨0, ns, by omega, rfl, t, e1, e2, HB8.out⟩
          case round =>
            obtain ⟨k, ns3, hk, rfl, HT, HNS, HNL, HB⟩ := hrel
            by_cases hlt3 : k < N2
            · have hk1 : (k : Int) < N2 := by omega
              have hkp : k < 2 ^ (h - L) := by rw [HN2.out]; exact hlt3
              have hk2 : 2 * k + 1 < 2 ^ (h - lv) := by
                have e : 2 ^ (h - lv) = 2 * 2 ^ (h - L) := by rw [show h - lv = (h - L) + 1 by have := HL'.out; omega, Nat.pow_succ]; omega
                omega
              have hj := tjoin_any wr w.heap.size hi3 T2 h (L + 1) ls ns3 HT.out lv k (nodeI ls lv (2 * k)) (nodeI ls lv (2 * k + 1)) (by have := HL'.out; omega) (by rw [HL'.out]; exact hkp) (by rw [HNS.out lv (Nat.le_refl _)]; exact levelI_get _ _ _ _ (by omega)) (by rw [HNS.out lv (Nat.le_refl _)]; exact levelI_get _ _ _ _ hk2)
              rw [← nodeI_succ, HL'.out, HNL.out, partI_set _ _ _ _ hkp, HTG2.out] at hj
              have HJ := Lib.hid hj
              clear hj hk2 hkp
              go_wp2_with (go_at_call 54; refine HJ.out.mono ?_; rintro e w9 ⟨rfl, ht9, hg9⟩)
              have HT9 := Lib.hid ht9
              have HB9 := Lib.hid (below_only HB.out hg9 HB.out.size (HT.out.blo.2.2 L (by omega)))
              clear ht9 hg9
              go_roundw
              case rel => exact ⟨k + 1, _, by omega, by go_num, HT9.out, fun q hq => (updN_far _ _ (by have := HL'.out; omega)).trans (HNS.out q hq), updN_at _ _ _, HB9.out⟩
              case measure => simp [intOf]; omega
            · obtain rfl : k = N2 := by omega
              have hal : ∀ q, q ≤ L → ns3 q = levelI ls h q := fun q hq => by
                by_cases hqL : q = L
                · subst hqL
                  have := HNL.out
                  rw [← HN2.out, partI_all] at this; exact this
                · exact HNS.out q (by have := HL'.out; omega)
              have HAL := Lib.hid hal
              clear hal
              go_wp2_with fail
              go_roundw
              case rel => exact ⟨L, hi3, T2, ns3, by have := HL'.out; omega, rfl, HT.out, HAL.out, HTG2.out, HB.out⟩
              case measure => have := HL'.out; simp [intOf]; omega
        · obtain rfl : lv = h := by omega
          go_wp2_with fail
          go_ret2
          exact ⟨T, hi2, ns2, by rw [HTG.out]; rfl, HT.out, HNS.out, HB.out⟩
end Go.Proofs.YtakfdlokgddaoaaDoor

/-! Trees: their roots, their leaves. -/
namespace Go.Proofs.YtakfdlokgddaoaaDoor
open Go.RowKit

/-- A tree of leaves, whole. -/
def TreeOf (w : World) (lo hi : Nat) (T : Tr) (ls : List (List Int)) : Prop := ∃ ns, TreeAt w lo hi T (heightI ls.length) (heightI ls.length + 1) ls ns ∧ ∀ j, j ≤ heightI ls.length → ns j = levelI ls (heightI ls.length) j
theorem TreeOf.keep {w w' : World} {lo hi : Nat} {T : Tr} {ls : List (List Int)} (t : TreeOf w lo hi T ls) (hs : w.heap.size ≤ w'.heap.size) (hk : ∀ b, lo ≤ b → b < hi → w'.heap[b]? = w.heap[b]?) : TreeOf w' lo hi T ls := by
  obtain ⟨ns, t, e⟩ := t
  exact ⟨ns, t.keep hs hk, e⟩
theorem TreeOf.later {w w' : World} {lo hi : Nat} {T : Tr} {ls : List (List Int)} (t : TreeOf w lo hi T ls) (hb : Below w.heap.size w w') : TreeOf w' lo hi T ls := by
  obtain ⟨ns, t, e⟩ := t
  exact ⟨ns, t.later hb, e⟩

theorem tNew_any (w : World) (A : Option Addr) (n c : Nat) (ls : List (List Int)) (ho : DsOk ls) (hs : Sl w w.heap.size 8 A n (cellsD ls)) (hok : 1 ≤ n ∧ n ≤ 4096) :
    Calls Tryd.prog 26 #[.slice A n c] w fun e w' => ∃ (T : Tr) (hi : Nat), e = .returned (.tuple #[.pointer (some ⟨T.g, 0, none⟩), .int .i64 0]) ∧ TreeOf w' w.heap.size hi T ls ∧ Below w.heap.size w w' := by
  have hl := hs.dgs ho
  refine (new_any w A n c ls ho hs hok).mono ?_
  rintro e w' ⟨T, hi, ns, rfl, t, e1, hb⟩
  subst hl
  exact ⟨T, hi, rfl, ⟨ns, t, e1⟩, hb⟩

set_option maxRecDepth 20000 in
theorem tRoot_any (w : World) (lo hi : Nat) (T : Tr) (ls : List (List Int)) (t : TreeOf w lo hi T ls) :
    Calls Tryd.prog 29 #[.pointer (some ⟨T.g, 0, none⟩)] w fun e w' => e = .returned (.agg (dgA (rootI ls))) ∧ Below w.heap.size w w' := by
  obtain ⟨ns, t, hal⟩ := t
  have h12 := t.hm.2
  have hn4 := t.n12
  have hn1 := t.lc.1
  have hri : rootI ls = topI (nodeI ls (heightI ls.length) 0) (heightI ls.length) := by rw [rootI, if_pos ⟨hn1, hn4⟩]
  obtain ⟨w1, hw1⟩ : ∃ w1, w.alloc (.cells (dgA zeroD) 23) = w1 := ⟨_, rfl⟩
  have kz : DgAt w1 w.heap.size 23 zeroD := hw1 ▸ dg_new w _ _
  have hb1 : Below w.heap.size w w1 := hw1 ▸ below_new w _
  have t1 := t.later hb1
  have HHT := Lib.hid (hgt_any w1 lo hi T _ _ ls ns t1)
  obtain ⟨h, hh⟩ : ∃ h, heightI ls.length = h := ⟨_, rfl⟩
  rw [hh] at t1 hal h12 HHT hri
  have hcell := t1.ncell (l := h) (by omega)
  rw [Nat.sub_self] at hcell
  have hd : (ns h)[0]? = some (nodeI ls h 0) := by rw [hal h (Nat.le_refl _)]; exact levelI_get _ _ _ _ (by rw [Nat.sub_self]; decide)
  have hr := sl_dg (t1.nsl (l := h) (by omega)) (t1.nv h (by omega)).2.2 hd
  rw [Nat.zero_add, Nat.zero_mul] at hr
  have hok := nodeI_ok ls h 0
  have HKZ := Lib.hid kz; have HB1 := Lib.hid hb1; have HW := Lib.hid hw1; have HR := Lib.hid hr; have HRI := Lib.hid hri
  have HI8 : Hid ((Tryd.prog.info? 23).map (·.size) = some ((nodeI ls h 0).map (Value.int .u8)).length) := by
    show _ = _
    rw [List.length_map, hok.len]; exact dg_size
  obtain ⟨g, hg⟩ : ∃ g, T.g = g := ⟨_, rfl⟩
  obtain ⟨bh, hbh⟩ : ∃ bh, T.bn h = bh := ⟨_, rfl⟩
  rw [hg, hbh] at hcell
  rw [hg] at HHT
  rw [hbh] at HR
  rw [hg]
  have i1 : (0 : Int) ≤ (h : Int) := by omega
  have i2 : (h : Int) < 13 := by omega
  clear t t1 hal hd hr hri hg hbh kz hb1 hw1 hh
  go_enter Tryd.func29, Tryd.ntmps29
  go_upto_region 1 with fail
  rw [zero8, show List.replicate 8 (0 : Int) = zeroD from rfl, HW.out]
  go_wp2_with (first
    | (go_at_call 57; refine HHT.out.mono ?_; rintro e w2 ⟨rfl, rfl⟩)
    | (refine wpList_load_mid rfl 23 _ rfl bh 0 rfl ((nodeI ls h 0).map (.int .u8)) _ HR.out Tryd.underlying23 rfl HI8.out ?_))
  refine (top_any _ (nodeI ls h 0) hok (h : Int) (by omega) (by omega)).mono ?_
  rintro e w2 ⟨rfl, hb2⟩
  rw [Int.toNat_natCast, ← HRI.out]
  have HB2 := Lib.hid (HB1.out.trans (hb2.mono HB1.out.size))
  have HZ2 := Lib.hid (HKZ.out.later hb2)
  have HI := dg_info (rootI ls) (rootI_ok _)
  have HO := Lib.hid (dgA_one (rootI ls))
  have HSZ : Hid ((dgA zeroD).size = (dgA (rootI ls)).size) := by show _ = _; rw [dgA_size, dgA_size, (rootI_ok _).len]; rfl
  clear hb2
  go_wp2_with (refine wpList_store_row rfl 23 _ _ rfl w.heap.size (dgA (rootI ls)) rfl rfl 23 (dgA zeroD) HZ2.out.heap HI.out HSZ.out HO.out ?_)
  refine bodyPost_ret (results_cell_row (p := 2) (ty := 23) rfl _ _ w.heap.size 23 (dgA (rootI ls)) (0, 0) _ rfl (setRow_heap _ _ _ _ _ _ HZ2.out.heap) Tryd.underlying23 rfl HI.out) rfl ?_
  exact ⟨rfl, below_setRow HB2.out (by omega) _⟩
theorem tRoot_nil (w : World) :
    Calls Tryd.prog 29 #[.pointer none] w fun e w' => e = .returned (.agg (dgA zeroD)) ∧ Below w.heap.size w w' := by
  obtain ⟨w1, hw1⟩ : ∃ w1, w.alloc (.cells (dgA zeroD) 23) = w1 := ⟨_, rfl⟩
  have kz : DgAt w1 w.heap.size 23 zeroD := hw1 ▸ dg_new w _ _
  have hb1 : Below w.heap.size w w1 := hw1 ▸ below_new w _
  have HKZ := Lib.hid kz; have HB1 := Lib.hid hb1; have HW := Lib.hid hw1
  have HIZ := dg_info zeroD zeroD_ok
  have HOZ := Lib.hid (dgA_one zeroD)
  clear kz hb1 hw1
  go_enter Tryd.func29, Tryd.ntmps29
  go_upto_region 1 with fail
  rw [zero8, show List.replicate 8 (0 : Int) = zeroD from rfl, HW.out]
  go_wp2_with (refine wpList_store_row rfl 23 _ _ rfl w.heap.size (dgA zeroD) rfl rfl 23 (dgA zeroD) HKZ.out.heap HIZ.out rfl HOZ.out ?_)
  refine bodyPost_ret (results_cell_row (p := 2) (ty := 23) rfl _ _ w.heap.size 23 (dgA zeroD) (0, 0) _ rfl (setRow_heap _ _ _ _ _ _ HKZ.out.heap) Tryd.underlying23 rfl HIZ.out) rfl ?_
  exact ⟨rfl, below_setRow HB1.out (by omega) _⟩

end Go.Proofs.YtakfdlokgddaoaaDoor
