/- Digests: the document's bytes. -/
import Derived.Test.YthibihjblodfmaaH9
import Derived.Deep.DeepCutAuto
namespace Go.Proofs.Ythibihjblodfmaa
open Go.RowKit

def padI (bs : List Int) : List Int := bs ++ 1 :: List.replicate (7 - bs.length % 8) 0
theorem pad_len (bs : List Int) : (padI bs).length = 8 * (bs.length / 8 + 1) := by simp [padI]; omega
theorem pad_ok {bs : List Int} (h : ByOk bs) : ByOk (padI bs) := fun b hb => by
  simp only [padI, List.mem_append, List.mem_cons, List.mem_replicate] at hb
  rcases hb with hb | rfl | ⟨_, rfl⟩
  · exact h b hb
  · omega
  · omega
theorem pad_chunks (s : St) (bs : List Int) : takeI (chunksI (bs.length / 8 + 1) s (padI bs)) bs.length = bytesI s bs := by
  rw [chunks_snoc, padI, chunks_append _ _ _ _ (by omega), bytesI, endI]
  congr 2
  rw [List.drop_append_of_le_length (by omega), List.take_of_length_le (by simp; omega)]
  rfl
theorem eight_get {l : List Int} {q k : Nat} {x : Int} (hk : k < 8) (hx : l[8 * q + k]? = some x) : (eightI l q)[k]? = some x := by
  rw [eightI, List.getElem?_take, if_pos hk, List.getElem?_drop]; exact hx

def lenV : Value → Nat
  | .slice _ n _ => n
  | _ => 0
theorem StAt.below {w w' : World} {g B : Nat} {t : TypeId} {s : St} (h : StAt w g t s) (hb : Below B w w') (hg : g < B) : StAt w' g t s := Bk.below h hb hg
/-- What stays while the bytes are gone through. -/
structure BA (w : World) (V : Value) (L : Nat) (all : List Int) (wr : World) (s : St) : Prop where
  st : StAt wr w.heap.size 188 s
  zs : StAt wr (w.heap.size + 1) 188 ⟨0, 0, 0, 0⟩
  own : wr.ownsRow (w.heap.size + 1 + 1) 5 1 V L (all.map (.int .u8))
  bl : Below w.heap.size w wr
section
variable {w wr wr' : World} {V : Value} {L : Nat} {all : List Int} {s : St}
theorem BA.put {g1 cap D i : Nat} (h : BA w (.slice (some ⟨g1, 0, none⟩) L cap) L all wr s) (h1 : D ≠ w.heap.size) (h2 : D ≠ w.heap.size + 1) (h3 : D ≠ g1) (h4 : w.heap.size ≤ D) (u : Value) : BA w (.slice (some ⟨g1, 0, none⟩) L cap) L all (wr.setCell ⟨D, i, none⟩ u) s :=
  ⟨Bk.far h.st (Ne.symm h1) _, Bk.far h.zs (Ne.symm h2) _, own_only h.own (only_set (only_refl wr D) i u) (by simp [Value.ownBlock]; exact Ne.symm h3), h.bl.setCell h4 _⟩
theorem BA.state {g1 cap : Nat} (h : BA w (.slice (some ⟨g1, 0, none⟩) L cap) L all wr s) (h1 : w.heap.size ≠ g1) (s' : St) :
    BA w (.slice (some ⟨g1, 0, none⟩) L cap) L all ((((wr.setCell ⟨w.heap.size, 0, none⟩ (.int .u64 s'.a)).setCell ⟨w.heap.size, 1, none⟩ (.int .u64 s'.b)).setCell ⟨w.heap.size, 2, none⟩ (.int .u64 s'.c)).setCell ⟨w.heap.size, 3, none⟩ (.int .u64 s'.d)) s' :=
  ⟨(((Bk.set_ h.st 0 _).set_ 1 _).set_ 2 _).set_ 3 _, Bk.far (Bk.far (Bk.far (Bk.far h.zs (by simp) _) (by simp) _) (by simp) _) (by simp) _,
    own_only h.own (only_set (only_set (only_set (only_set (only_refl wr w.heap.size) 0 _) 1 _) 2 _) 3 _) (by simp [Value.ownBlock]; exact Ne.symm h1),
    (((h.bl.setCell (Nat.le_refl _) _).setCell (Nat.le_refl _) _).setCell (Nat.le_refl _) _).setCell (Nat.le_refl _) _⟩
theorem BA.later (h : BA w V L all wr s) (hb : Below wr.heap.size wr wr') : BA w V L all wr' s := ⟨h.st.later hb, h.zs.later hb, own_keep h.own hb, h.bl.trans (hb.mono h.bl.size)⟩
end

set_option maxRecDepth 20000 in
set_option maxHeartbeats 800000 in
theorem rbytes_any (w : World) (s : St) (A : Option Addr) (n c : Nat) (bs : List Int) (hs : Sl w w.heap.size 1 A n (bs.map (.int .u8))) (hb : ByOk bs) (hn : n ≤ 70368744177664) :
    Calls Try.prog 130 #[.agg #[.int .u64 s.a, .int .u64 s.b, .int .u64 s.c, .int .u64 s.d], .slice A n c] w fun e w' =>
      e = .returned (.agg #[.int .u64 (bytesI s bs).a, .int .u64 (bytesI s bs).b, .int .u64 (bytesI s bs).c, .int .u64 (bytesI s bs).d]) ∧ Below w.heap.size w w' := by
  obtain ⟨w1, hw1⟩ : ∃ w1, (w.alloc (.cells #[.int .u64 s.a, .int .u64 s.b, .int .u64 s.c, .int .u64 s.d] 188)).alloc (.cells #[.int .u64 0, .int .u64 0, .int .u64 0, .int .u64 0] 188) = w1 := ⟨_, rfl⟩
  have hrs : RS w w1 s := ⟨hw1 ▸ (Bk.new w _ #[.int .u64 s.a, .int .u64 s.b, .int .u64 s.c, .int .u64 s.d]).alloc _, hw1 ▸ Bk.at_ _ _ #[.int .u64 0, .int .u64 0, .int .u64 0, .int .u64 0] (by simp) rfl, hw1 ▸ (below_new w _).alloc (by simp) _⟩
  have hz1 : w1.heap.size = w.heap.size + 1 + 1 := by rw [← hw1]; simp
  have HW := Lib.hid hw1; have HR := Lib.hid hrs; have HZ1 := Lib.hid hz1; have HL := Lib.hid hs.length; have HY := Lib.hid hb
  have HS1 := Lib.hid (Sl.alloc (hs.below hrs.bl) hrs.bl.size (.cells #[] 5))
  have HE := Lib.hid (own_empty_at (w := w1) (e := 5) (size := 1) hz1 (Nat.le_refl _))
  obtain ⟨i0, hi, hi0, hi1, hi2⟩ := info_parts Try.infoU8
  clear hw1 hrs hz1 hs hb
  go_enter Try.func130, Try.ntmps130
  go_upto_region 1 with fail
  rw [HW.out]
  go_wp2_with (first
    | (at_builtin; refine wpList_app _ rfl (.tmp 9) (.tmp 10) 23 rfl (w.heap.size + 1 + 1) 5 i0 (.int .u8 0) 1 1 Try.underlying23 hi hi0 hi1 hi2 rfl (by decide) (.slice (some ⟨w.heap.size + 1 + 1, 0, none⟩) 0 0) 0 [] (by have := HZ1.out; simp [Act.eval, this]) HE.out _ _ n c (bs.map (.int .u8)) rfl HS1.out (ints_one _ _) (by unfold maxLen; omega) (by omega) (by have := HZ1.out; simp <;> omega) ?_; intro v1 w2 hown1 hg1 hat1; rw [Nat.zero_add, List.nil_append] at hown1; have hb2 : Below w1.heap.size w1 w2 := (grown_below (below_new w1 _) HE.out hg1 (by rw [HZ1.out]; exact Nat.le_refl _) (by simp)); obtain ⟨A1, c1, rfl⟩ := own_form hown1; have HO1 := Lib.hid (hown1.alloc (.cells #[.int .u8 1] 5)); have HB2 := Lib.hid hb2; have HN2 := Lib.hid (sl_new w2 #[.int .u8 1] 5 1 1 rfl (by omega)); clear hown1 hg1 hat1 hb2)
    | (at_builtin; refine wpList_app _ rfl (.tmp 11) (.tmp 12) 23 rfl (w.heap.size + 1 + 1) 5 i0 (.int .u8 0) 1 1 Try.underlying23 hi hi0 hi1 hi2 rfl (by decide) (.slice A1 n c1) n (bs.map (.int .u8)) rfl HO1.out _ _ 1 _ [.int .u8 1] rfl HN2.out (by simp [Value.oneCell']) (by unfold maxLen; omega) (by omega) (by have := HZ1.out; have := HB2.out.size; simp <;> omega) ?_; intro v3 w3 hown3 hg3 hat3; have hb3 : Below w.heap.size w w3 := (grown_below ((HR.out.bl.trans (HB2.out.mono HR.out.bl.size)).trans ((below_new w2 _).mono (by have := HR.out.bl.size; have := HB2.out.size; omega))) HO1.out hg3 (by omega) (by have := HR.out.bl.size; have := HB2.out.size; simp <;> omega)); have hz3 : Below w1.heap.size w1 w3 := (grown_below (HB2.out.trans ((below_new w2 _).mono HB2.out.size)) HO1.out hg3 (by rw [HZ1.out]; exact Nat.le_refl _) (by have := HB2.out.size; simp <;> omega)); obtain ⟨A3, c3, rfl⟩ := own_form hown3; have HO3 := Lib.hid hown3; have HB3 := Lib.hid hb3; have HZ3 := Lib.hid hz3; clear hown3 hg3 hat3 hb3 hz3))
  have hba : BA w (.slice A3 (n + 1) c3) (n + 1) (bs ++ [1]) w3 s := ⟨HR.out.st.later HZ3.out, HR.out.zs.later HZ3.out, by rw [List.map_append]; exact HO3.out, HB3.out⟩
  have HBA := Lib.hid hba
  clear hba
  obtain ⟨T, hT⟩ : ∃ T, 8 * (n / 8 + 1) = T := ⟨_, rfl⟩
  have hTn : n + 1 ≤ T := by omega
  have hT8 : T ≤ n + 8 := by omega
  have hTm : T % 8 = 0 := by omega
  have HT := Lib.hid hT
  clear hT HE HS1 HO1 HN2 HO3 HB3 HZ3 HB2
  go_loopw [5] (fun v wr => ∃ (j L : Nat) (A4 : Option Addr) (c4 : Nat), n + 1 + j = L ∧ L ≤ T ∧ v = .slice A4 L c4 ∧ BA w (.slice A4 L c4) L (bs ++ 1 :: List.replicate j 0) wr s) (fun v _ => T - lenV v)
  case atStart => exact ⟨0, n + 1, A3, c3, rfl, hTn, rfl, HBA.out⟩
  case round =>
    obtain ⟨j, L, A4, c4, hj, hLT, rfl, hba⟩ := hrel
    clear HBA
    have HBA := Lib.hid hba
    clear hba
    by_cases hmod : L % 8 = 0
    · have hm1 : (((L : Nat) : Int) % 8 != 0) = false := by simp; omega
      have hLT2 : L = T := by omega
      have hall : bs ++ 1 :: List.replicate j 0 = padI bs := by
        have := HT.out; have := HL.out
        rw [padI, show j = 7 - bs.length % 8 by omega]
      have hb0 := HBA.out
      rw [hall, hLT2] at hb0
      obtain ⟨g1, cap1, hAe, hgb1, hglt1⟩ := hb0.own.form (by omega)
      rw [hLT2] at hm1 ⊢
      have hAe' : A4 = some ⟨g1, 0, none⟩ := by injection hAe
      subst hAe'
      have HB0 := Lib.hid hb0
      have hTT : (T : Int) ≤ 9223372036854775807 := by omega
      clear hall hb0 hAe HBA hj hLT hmod hLT2
      go_wp2_with fail
      go_loopw [6] (fun ix wy => ∃ (q I : Nat), I = 8 * q ∧ I ≤ T ∧ ix = .int .i64 (I : Int) ∧ BA w (.slice (some ⟨g1, 0, none⟩) T c4) T (padI bs) wy (chunksI q s (padI bs))) (fun ix _ => T - (intOf ix).toNat)
      case atStart => exact ⟨0, 0, rfl, by omega, rfl, HB0.out⟩
      case round =>
        obtain ⟨q, I, hI, hIT, rfl, hbq⟩ := hrel
        have HQ := Lib.hid hbq; have HI := Lib.hid hI
        by_cases hlt : I < T
        · have hI8 : I + 8 ≤ T := by omega
          have hok := eight_ok (pad_ok HY.out) (k := q) (by rw [pad_len, HL.out, HT.out]; omega)
          have hgl1 : g1 < wr.heap.size := by
            have := hbq.own.lt g1 rfl; omega
          have hgl2 : w.heap.size + 1 < wr.heap.size := Bk.lt hbq.zs
          have hnew : BA w (.slice (some ⟨g1, 0, none⟩) T c4) T (padI bs) (wr.alloc (.cells (dgA (List.replicate 8 0)) 22)) (chunksI q s (padI bs)) := hbq.later (below_new _ _)
          have hdn : DgAt (wr.alloc (.cells (dgA (List.replicate 8 0)) 22)) wr.heap.size 22 ((eightI (padI bs) q).take 0 ++ List.replicate (8 - 0) 0) := dg_new wr 22 (List.replicate 8 0)
          have HOK := Lib.hid hok
          clear hok
          obtain ⟨D, hD⟩ : ∃ D, wr.heap.size = D := ⟨_, rfl⟩
          rw [hD] at hgl1 hgl2 hdn
          obtain ⟨wd, hwd⟩ : ∃ wd, wr.alloc (.cells (dgA (List.replicate 8 0)) 22) = wd := ⟨_, rfl⟩
          rw [hwd] at hnew hdn
          have hn1 : D ≠ w.heap.size := by omega
          have hn2 : D ≠ w.heap.size + 1 := by omega
          have hn3 : D ≠ g1 := by omega
          have hn3' : g1 ≠ D := by omega
          have hn4 : w.heap.size ≤ D := by omega
          have HNEW := Lib.hid hnew; have HDN := Lib.hid hdn; have HWD := Lib.hid hwd
          clear hbq hI HB0 hnew hdn hwd HQ
          go_wp2_with fail
          rw [zero8, HWD.out]
          clear HWD hD
          go_loopw [8] (fun kx wz => ∃ k : Nat, k ≤ 8 ∧ kx = .int .i64 k ∧ DgAt wz D 22 ((eightI (padI bs) q).take k ++ List.replicate (8 - k) 0) ∧ BA w (.slice (some ⟨g1, 0, none⟩) T c4) T (padI bs) wz (chunksI q s (padI bs))) (fun kx _ => 8 - (intOf kx).toNat)
          case atStart => exact ⟨0, by omega, rfl, HDN.out, HNEW.out⟩
          case round =>
            obtain ⟨k, hk, rfl, hdk, hbk⟩ := hrel
            clear HDN HNEW
            have HDK := Lib.hid hdk; have HBK := Lib.hid hbk
            have hlD := Bk.lt hdk
            by_cases hk8 : k < 8
            · have hk1 : (k : Int) < 8 := by omega
              obtain ⟨x, hx⟩ : ∃ x, (padI bs)[8 * q + k]? = some x := ⟨(padI bs)[8 * q + k]'(by rw [pad_len, HL.out, HT.out]; have := HI.out; omega), List.getElem?_eq_getElem _⟩
              have hsrc : wr.cell? ⟨g1, I + k, none⟩ = some (.int .u8 x) := by
                rw [hbk.own.cellAt (I + k) (by omega), HI.out, List.getElem?_map, hx]; rfl
              have hdst : wr.cell? ⟨D, k, none⟩ = some (.int .u8 0) := by
                rw [Bk.cell hdk, List.getElem?_map, List.getElem?_append_right (by rw [List.length_take]; omega)]
                simp [List.getElem?_replicate, HOK.out.len]; omega
              have hfr := Bk.frozen hdk k
              have hxe := Lib.hid (eight_get hk8 hx)
              have hb1 : (0 : Int) ≤ (I : Int) + k := by omega
              have hb2 : (I : Int) + k < T := by omega
              clear hdk hbk hx
              go_wp2_with fail
              go_roundw
              case rel =>
                have e1 := Bk.set_ HDK.out k (.int .u8 x)
                have e2 : ((eightI (padI bs) q).take k ++ List.replicate (8 - k) 0).set k x = (eightI (padI bs) q).take (k + 1) ++ List.replicate (8 - (k + 1)) 0 := by
                  have e3 : 8 - k = (8 - (k + 1)) + 1 := by omega
                  have hl : ((eightI (padI bs) q).take k).length = k := by rw [List.length_take, HOK.out.len]; omega
                  rw [List.set_append, if_neg (by rw [hl]; omega), hl, Nat.sub_self, e3, List.replicate_succ, List.set_cons_zero, take_snoc hxe.out, List.append_assoc]
                  rfl
                rw [← List.map_set, e2] at e1
                exact ⟨k + 1, by omega, by go_num, e1, HBK.out.put hn1 hn2 hn3 hn4 _⟩
              case measure => simp [intOf]; omega
            · have hk1 : (8 : Int) ≤ k := by omega
              have e8 : (eightI (padI bs) q).take k ++ List.replicate (8 - k) 0 = eightI (padI bs) q := by
                rw [List.take_of_length_le (by rw [HOK.out.len]; omega), show 8 - k = 0 by omega]; simp
              rw [e8] at hdk
              obtain ⟨e0, e1, e2, e3, e4, e5, e6, e7, he⟩ := list8 (eightI (padI bs) q) HOK.out.len
              rw [he] at hdk HOK
              obtain ⟨d0, d1, d2, d3, d4, d5, d6, d7⟩ := cells8 hdk
              obtain ⟨sq, hsq⟩ : ∃ sq, chunksI q s (padI bs) = sq := ⟨_, rfl⟩
              rw [hsq] at hbk HBK
              obtain ⟨c0, c1, c2, c3, cf⟩ := hbk.st.cells
              have hlA : w.heap.size < wr.heap.size := Bk.lt hbk.st
              have HE := Lib.hid he; have HSQ := Lib.hid hsq
              clear e8 hdk hbk he hsq HDK
              go_wp2_with fail
              go_region_law (first
                | (go_simp; go_at_call 139; refine (rnum_any [e0, e1, e2, e3, e4, e5, e6, e7] HOK.out _).mono ?_; rintro e w5 ⟨rfl, hb5⟩; have hb5' := HBK.out.later ((below_draws wr _ 1).trans hb5); obtain ⟨x0, x1, x2, x3, xf⟩ := hb5'.st.cells; have xl : w.heap.size < w5.heap.size := Bk.lt hb5'.st; have HB5 := Lib.hid hb5'; clear hb5 hb5')
                | (go_simp; go_at_call 138; refine (in_any _ sq _).mono ?_; rintro e w6 ⟨rfl, hb6⟩; have hb6' := HB5.out.later hb6; obtain ⟨y0, y1, y2, y3, yf⟩ := hb6'.st.cells; have yl : w.heap.size < w6.heap.size := Bk.lt hb6'.st; have HB6 := Lib.hid hb6'; clear hb6 hb6'))
              all_goals
                go_wp2_with fail
                go_roundw
                case rel =>
                  refine ⟨q + 1, I + 8, by have := HI.out; omega, hI8, by go_num, ?_⟩
                  rw [chunks_snoc, HSQ.out, show ((padI bs).drop (8 * q)).take 8 = _ from HE.out]
                  exact HB6.out.state (by omega) _
                case measure => simp [intOf]; omega
        · obtain rfl : I = T := by omega
          have hq : q = n / 8 + 1 := by have := HI.out; have := HT.out; omega
          have hfin : takeI (chunksI q s (padI bs)) (n : Int) = bytesI s bs := by
            rw [← pad_chunks s bs, HL.out, hq]
          have HF := Lib.hid hfin
          obtain ⟨sq, hsq⟩ : ∃ sq, chunksI q s (padI bs) = sq := ⟨_, rfl⟩
          rw [hsq] at HQ HF
          obtain ⟨c0, c1, c2, c3, cf⟩ := HQ.out.st.cells
          have hlA : w.heap.size < wr.heap.size := Bk.lt HQ.out.st
          clear hbq hI HB0 hsq hfin hq
          go_wp2_with fail
          refine (in_any _ sq _).mono ?_
          rintro e w6 ⟨rfl, hb6⟩
          rw [HF.out]
          have hz6 := (HQ.out.later hb6).zs
          obtain ⟨d0, d1, d2, d3, df⟩ := hz6.cells
          have hlz : w.heap.size + 1 < w6.heap.size := Bk.lt hz6
          have HBL := Lib.hid (HQ.out.later hb6).bl
          clear hz6 hb6 c0 c1 c2 c3 cf
          go_wp2_with fail
          refine bodyPost_ret (v := .agg #[.int .u64 (bytesI s bs).a, .int .u64 (bytesI s bs).b, .int .u64 (bytesI s bs).c, .int .u64 (bytesI s bs).d]) (by simp [results, Try.results130, go_sem, d0, d1, d2, d3]) rfl ?_
          exact ⟨rfl, (((HBL.out.setCell (Nat.le_succ _) _).setCell (Nat.le_succ _) _).setCell (Nat.le_succ _) _).setCell (Nat.le_succ _) _⟩
    · have hm1 : (((L : Nat) : Int) % 8 != 0) = true := by simp; omega
      have HO := Lib.hid (HBA.out.own.alloc (.cells #[.int .u8 0] 5)); have HN := Lib.hid (sl_new wr #[.int .u8 0] 5 1 1 rfl (by omega))
      have HJ := Lib.hid hj
      have hlt : L < T := by omega
      clear hj hmod
      go_wp2_with (at_builtin; refine wpList_app _ rfl (.tmp 18) (.tmp 19) 23 rfl (w.heap.size + 1 + 1) 5 i0 (.int .u8 0) 1 1 Try.underlying23 hi hi0 hi1 hi2 rfl (by decide) (.slice A4 L c4) L ((bs ++ 1 :: List.replicate j 0).map (.int .u8)) rfl HO.out _ _ 1 _ [.int .u8 0] rfl HN.out (by simp [Value.oneCell']) (by unfold maxLen; omega) (by omega) (by have := Bk.lt HBA.out.zs; simp <;> omega) ?_; intro v5 w5 hown5 hg5 hat5; have hb5 : Below (w.heap.size + 1 + 1) wr w5 := (grown_below ((below_new wr _).mono (by have := Bk.lt HBA.out.zs; omega)) HO.out hg5 (Nat.le_refl _) (by have := Bk.lt HBA.out.zs; simp <;> omega)); obtain ⟨A5, c5, rfl⟩ := own_form hown5; have HO5 := Lib.hid hown5; have HB5 := Lib.hid hb5; clear hown5 hg5 hat5 hb5)
      go_roundw
      case rel =>
        refine ⟨j + 1, L + 1, A5, c5, by have := HJ.out; omega, by omega, rfl, HBA.out.st.below HB5.out (by omega), HBA.out.zs.below HB5.out (by omega), ?_, HBA.out.bl.trans (HB5.out.mono (by omega))⟩
        have := HO5.out
        rw [show bs ++ 1 :: List.replicate (j + 1) 0 = (bs ++ 1 :: List.replicate j 0) ++ [0] by simp [List.replicate_succ']]
        rw [List.map_append]
        exact this
      case measure => simp [lenV]; omega
end Go.Proofs.Ythibihjblodfmaa
