/- A ring, read off the bytes that it was saved as. -/
import Derived.Test.YtakfdlokgddaoaaDoorWI
namespace Go.Proofs.YtakfdlokgddaoaaDoor
set_option linter.unusedSimpArgs false
set_option linter.unusedVariables false
open Go.RowKit Go.Maps

section
variable {w w' : World} {lo g b : Nat} {V tp : Value} {sec : List Int} {h : Int} {L : List (List Int)}
theorem LMap.eq {n : Nat} (k : LMap w b n L) (he : w'.heap[b]? = w.heap[b]?) : LMap w' b n L := by
  obtain ⟨es, clock, hb, F, hs, hD⟩ := k
  exact ⟨es, clock, he.trans hb, F, hs, hD⟩
theorem own_eq {base size n : Nat} {e : TypeId} {v : Value} {xs : List Value} (h : w.ownsRow base e size v n xs) (he : ∀ q, v.ownBlock = some q → w'.heap[q]? = w.heap[q]?) : w'.ownsRow base e size v n xs := by
  obtain ⟨hl, h⟩ := h
  refine ⟨hl, ?_⟩
  rcases h with h | ⟨g, cap, cur, rfl, hb, hh, h2⟩
  · exact .inl h
  · exact .inr ⟨g, cap, cur, rfl, hb, (he g rfl).trans hh, h2⟩
/-- What turns lies below the ring's blocks. -/
theorem LedAt.chg (k : LedAt w lo g b V sec h tp L) {p q : Nat} (hc : Chg w w' p q nilV) (hp : p < lo) (hq : q < lo) : LedAt w' lo g b V sec h tp L := by
  have h1 := k.glo
  have h2 := k.blo
  have hl := World.ownsMap.lt k.map
  refine ⟨Bk.chg k.bk hc (by omega) (by omega) (by simp [nilV, Value.ownBlock]), own_eq k.row fun r hr => ?_, LMap.eq k.map (hc.blk b hl (by omega) (by omega) (by simp [nilV, Value.ownBlock])), k.glo, k.blo, k.ok, k.nd⟩
  have := World.ownsRow.lt k.row r hr
  exact hc.blk r this.2 (by omega) (by omega) (by simp [nilV, Value.ownBlock])
theorem LedAt.mono (k : LedAt w lo g b V sec h tp L) {lo' : Nat} (hl : lo' ≤ lo) : LedAt w lo' g b V sec h tp L :=
  ⟨k.bk, own_base k.row hl, k.map, Nat.le_trans hl k.glo, Nat.le_trans hl k.blo, k.ok, k.nd⟩
end
theorem led_new (w : World) {lo b : Nat} {Y : Array Value} (hb : w.heap.size = b) (hlo : lo ≤ b) (hY : (rgC zeroD 0 (.pointer none) (.slice none 0 0) (.map (some b))).toArray = Y) :
    LedAt ((w.alloc (.map #[] 0)).alloc (.cells Y 67)) lo (b + 1) b (.slice none 0 0) zeroD 0 (.pointer none) [] := by
  refine ⟨Bk.at_ _ _ Y (by simp [hb]) (by rw [← hY]), World.ownsRow_nil _ _ _ _, ?_, by omega, hlo, (fun d hd => by cases hd), List.nodup_nil⟩
  rw [← hb]
  exact World.ownsMap.alloc (World.ownsMap_made w _ _ _) _
theorem nd_at {L : List (List Int)} (h : L.Nodup) {k : Nat} {d : List Int} (hd : L[k]? = some d) : d ∉ L.take k := by
  intro hm
  have hk := (List.getElem?_eq_some_iff.1 hd).1
  have h1 : (L.take k ++ L.drop k).Nodup := by rw [List.take_append_drop]; exact h
  have h2 := (List.nodup_append.1 h1).2.2 d hm d (List.mem_of_getElem? (i := 0) (by rw [List.getElem?_drop]; exact hd))
  exact h2 rfl
theorem feed_at {L : List (List Int)} {k : Nat} {d : List Int} (hd : L[k]? = some d) : (L.drop k).flatMap lstB = lstB d ++ (L.drop (k + 1)).flatMap lstB := by
  obtain ⟨hk, rfl⟩ := List.getElem?_eq_some_iff.1 hd
  rw [List.drop_eq_getElem_cons hk, List.flatMap_cons]
/-- How long the ledger of a ring is. -/
def lenAt (w : World) (g : Nat) : Nat := match w.cell? ⟨g, 10, none⟩ with
  | some (.slice _ n _) => n
  | _ => 0
theorem lenAt_is {w : World} {g n : Nat} {A : Option Addr} {c : Nat} (h : w.cell? ⟨g, 10, none⟩ = some (.slice A n c)) : lenAt w g = n := by unfold lenAt; rw [h]
theorem save_ok {sec : List Int} {h : Nat} {L : List (List Int)} (hs : DgOk sec) (hh : h ≤ 8) (hL : DsOk L) (hl : L.length ≤ 256) : ByOk (saveI sec h L) := by
  unfold saveI
  refine byOk_app (byOk_app (byOk_app (lstB_ok hs.byt (by rw [hs.len]; decide)) (numB_ok (by omega))) (numB_ok (by omega))) ?_
  intro b hb
  obtain ⟨d, hd, hb⟩ := List.mem_flatMap.1 hb
  exact lstB_ok (hL d hd).byt (by rw [(hL d hd).len]; decide) b hb
theorem save_is (sec : List Int) (h : Nat) (L : List (List Int)) : saveI sec h L = lstB sec ++ (numB h ++ (numB L.length ++ L.flatMap lstB)) := by simp [saveI]
theorem rg_build0 (b : Nat) (w : World) : (Instr.build 67 #[(4, .map (some b))]).run Tryd.prog w = .ok (.agg (rgC zeroD 0 (.pointer none) (.slice none 0 0) (.map (some b))).toArray) w := by kernel_rfl
def RetOp (w : World) (sec : List Int) (h : Nat) (L : List (List Int)) (e : Ending) (w' : World) : Prop :=
  ∃ g b V T tlo thi, e = .returned (.tuple #[.pointer (some ⟨g, 0, none⟩), .int .i64 0]) ∧ RingAt w' w.heap.size g b V T tlo thi sec h L ∧ Below w.heap.size w w'
set_option maxRecDepth 20000 in
set_option maxHeartbeats 8000000 in
theorem kopen_any (w : World) (A : Option Addr) (N c : Nat) (sec : List Int) (h : Nat) (L : List (List Int)) (hs : DgOk sec) (hh : h ≤ 8) (hL : LedOk (2 ^ h) L) (hsl : Sl w w.heap.size 1 A N ((saveI sec h L).map (.int .u8))) :
    Calls Tryd.prog 9 #[.slice A N c] w (RetOp w sec h L) := by
  have hpb := pow_le8 hh
  have hl256 : L.length ≤ 256 := Nat.le_trans hL.le hpb.2
  have hlen := hsl.length
  have hsz : (saveI sec h L).length ≤ 5000 := by rw [← savK_all]; exact savK_len _ hs hL.ok hl256
  have HNR := Lib.hid (newReader_any w A N c _ (save_ok hs hh hL.ok hl256) hsl (by omega))
  rw [save_is] at HNR
  obtain ⟨hsh, _⟩ := shl_num h (by omega)
  have HLE : Hid (L.length ≤ 2 ^ h) := hL.le
  have HLO := Lib.hid hL.ok; have HLN := Lib.hid hL.nd; have HSO := Lib.hid hs; have HHH := Lib.hid hh
  obtain ⟨p, hp⟩ : ∃ p, 2 ^ h = p := ⟨_, rfl⟩
  have HPE := Lib.hid hp
  obtain ⟨n, hn⟩ : ∃ n, L.length = n := ⟨_, rfl⟩
  have HN := Lib.hid hn
  rw [hp] at hsh hpb HLE
  rw [hn] at HNR HLE hl256
  have HPB := Lib.hid hpb; have HNL := Lib.hid hl256
  clear hs hlen hsz hL hsl hpb hl256 hp hn
  go_enter Tryd.func9, Tryd.ntmps9
  go_wp2_with fail
  refine HNR.out.mono ?_
  rintro e w2 ⟨⟨g, rfl, hg, hrd⟩, hbn⟩
  have HB2 := Lib.hid hbn; have HRD2 := Lib.hid hrd; have HG2 : Hid (w.heap.size ≤ g ∧ g < w2.heap.size) := ⟨hg, hrd.lt⟩
  clear hg hrd hbn HNR
  go_wp2_with (with_reducible refine stop_store 75 _ _ rfl ?_)
  refine StopD.go ?_
  obtain ⟨pr, hpr⟩ : ∃ x, w2.heap.size = x := ⟨_, rfl⟩
  obtain ⟨w3, hw3⟩ : ∃ x, (w2.alloc (.cells #[.pointer none] 75)).alloc (.cells #[.int .i64 0] 26) = x := ⟨_, rfl⟩
  have hb3 : Below w2.heap.size w2 w3 := hw3 ▸ (below_new w2 _).alloc (by simp) _
  have kp3 : Bk w3 pr 75 [.pointer none] := hw3 ▸ (Bk.at_ w2 _ #[.pointer none] hpr rfl).alloc _
  have ke3 : Bk w3 (pr + 1) 26 [.int .i64 0] := hw3 ▸ Bk.at_ _ _ #[.int .i64 0] (by simp [hpr]) rfl
  have hz3 : w3.heap.size = pr + 2 := by rw [← hw3]; simp [hpr]
  rw [hw3, hpr]
  rw [hpr] at HG2
  have HRD3 := Lib.hid (HRD2.out.later hb3); have HB3 := Lib.hid (below_then HB2.out hb3); have HP3 := Lib.hid kp3; have HE3 := Lib.hid ke3
  clear hw3 hpr hb3 kp3 ke3 HB2 HRD2
  refine wpList_store_part rfl 75 _ _ rfl pr 0 (.pointer (some ⟨g, 0, none⟩)) [.pointer (some ⟨g, 0, none⟩)] rfl rfl rfl 75 [] [.pointer none] [] (by simpa using HP3.out) rfl rfl (by kernel_rfl) (by simp [Value.oneCell']) ?_
  intro w4 hp
  have HP4 : Hid (Bk w4 pr 75 [.pointer (some ⟨g, 0, none⟩)]) := by show Bk _ _ _ _; have := hp.bk; simpa using this
  have HE4 := Lib.hid (HE3.out.grown hp.only (by intro e; injection e with e; omega))
  have HRD4 := Lib.hid (HRD3.out.only hp.only (by have := HG2.out; omega) (by have := HG2.out; omega))
  have HB4 := Lib.hid (below_only HB3.out hp.only HB3.out.size (by have := HG2.out; omega))
  have hz4 : pr + 2 ≤ w4.heap.size := by have := hp.only.size; omega
  clear hp HP3 HE3 HRD3 HB3 hz3
  go_wp2_with (with_reducible refine stop_store 26 _ _ rfl ?_)
  refine StopD.go ?_
  refine wpList_store_part rfl 26 _ _ rfl (pr + 1) 0 (.int .i64 0) [.int .i64 0] rfl rfl rfl 26 [] [.int .i64 0] [] (by simpa using HE4.out) rfl rfl (by kernel_rfl) (by simp [Value.oneCell']) ?_
  intro w5 hp
  have HE5 : Hid (Bk w5 (pr + 1) 26 [.int .i64 0]) := by show Bk _ _ _ _; have := hp.bk; simpa using this
  have HP5 := Lib.hid (HP4.out.grown hp.only (by intro e; injection e with e; omega))
  have HRD5 := Lib.hid (HRD4.out.only hp.only (by have := HG2.out; omega) (by have := HG2.out; omega))
  have HB5 := Lib.hid (below_only HB4.out hp.only HB4.out.size (by have := HG2.out; omega))
  have HO5 : Hid (OpB w5 w.heap.size g pr (pr + 1) (lstB sec ++ (numB h ++ (numB n ++ L.flatMap lstB)))) := ⟨HG2.out.1, HG2.out.2, Nat.lt_succ_self _, HP5.out, HE5.out, HRD5.out⟩
  have HZ5 : Hid (pr + 2 ≤ w5.heap.size) := Nat.le_trans hz4 hp.only.size
  clear hp HP4 HE4 HRD4 HB4 hz4 HE5 HP5 HRD5
  have HDG := Lib.hid (odig_any w5 w.heap.size g pr (pr + 1) sec _ HSO.out HO5.out)
  go_wp2_with fail
  refine HDG.out.mono ?_
  rintro e w6 ⟨rfl, ho, hc⟩
  have HO6 := Lib.hid ho; have HB6 := Lib.hid (HB5.out.trans (hc.below HB5.out.size HG2.out.1 (Nat.le_trans HG2.out.1 (by have := HG2.out; omega)) (fun q hq => by simp [nilV, Value.ownBlock] at hq)))
  have HZ6 : Hid (pr + 2 ≤ w6.heap.size) := Nat.le_trans HZ5.out hc.size
  clear ho hc HDG HO5 HB5
  go_wp2_with (with_reducible refine stop_store 23 _ _ rfl ?_)
  refine StopD.go ?_
  obtain ⟨g7, hg7⟩ : ∃ g, w6.heap.size = g := ⟨_, rfl⟩
  have hbn : Below w6.heap.size w6 (w6.alloc (.cells #[.int .u8 0, .int .u8 0, .int .u8 0, .int .u8 0, .int .u8 0, .int .u8 0, .int .u8 0, .int .u8 0] 23)) := below_new w6 _
  have kt : Bk (w6.alloc (.cells #[.int .u8 0, .int .u8 0, .int .u8 0, .int .u8 0, .int .u8 0, .int .u8 0, .int .u8 0, .int .u8 0] 23)) g7 23 ([] ++ (dl zeroD ++ [])) := by rw [← hg7]; exact Bk.new' w6 _ #[.int .u8 0, .int .u8 0, .int .u8 0, .int .u8 0, .int .u8 0, .int .u8 0, .int .u8 0, .int .u8 0] rfl
  rw [hg7]
  refine wpList_store_part rfl 23 _ _ rfl g7 0 (.agg (dl sec).toArray) (dl sec) rfl rfl rfl 23 [] (dl zeroD) [] kt rfl (by rw [dl_len, dl_len, HSO.out.len]; rfl) (hdg_size _ HSO.out) (dl_one' _) ?_
  intro w7 hp
  have hbn : Below w6.heap.size w6 w7 := hbn.grown hp.only hbn.size (fun q hq => by injection hq with hq; omega)
  have HS7 : Hid (Bk w7 g7 23 (dl sec)) := by show Bk _ _ _ _; have := hp.bk; simpa using this
  clear hp kt
  have HO7 := Lib.hid (HO6.out.later hbn); have HB7 := Lib.hid (below_then HB6.out hbn)
  have HG7 : Hid (pr + 1 < g7 ∧ w.heap.size ≤ g7) := by have := HZ6.out; have := HB6.out.size; show _ ∧ _; omega
  clear hbn hg7 HO6 HB6
  have HNM := Lib.hid (onum_any w7 w.heap.size g pr (pr + 1) h 8 HHH.out (by omega) _ HO7.out)
  go_wp2_with fail
  refine HNM.out.mono ?_
  rintro e w8 ⟨rfl, ho, hc⟩
  have HO8 := Lib.hid ho; have HB8 := Lib.hid (HB7.out.trans (hc.below HB7.out.size HG2.out.1 (Nat.le_trans HG2.out.1 (by have := HG2.out; omega)) (fun q hq => by simp [nilV, Value.ownBlock] at hq)))
  have HS8 := Lib.hid (Bk.chg HS7.out hc (by have := HG2.out; have := HG7.out; omega) (by have := HG7.out; omega) (by simp [nilV, Value.ownBlock]))
  clear ho hc HNM HO7 HB7 HS7
  have hpb := HPB.out
  have HNM := Lib.hid (onum_any w8 w.heap.size g pr (pr + 1) n p HLE.out (by omega) _ HO8.out)
  have h0 : (0 : Int) ≤ h := by omega
  have h8 : (h : Int) ≤ 8 := by have := HHH.out; omega
  go_wp2_with fail
  refine HNM.out.mono ?_
  rintro e w9 ⟨rfl, ho, hc⟩
  have HO9 := Lib.hid ho; have HB9 := Lib.hid (HB8.out.trans (hc.below HB8.out.size HG2.out.1 (Nat.le_trans HG2.out.1 (by have := HG2.out; omega)) (fun q hq => by simp [nilV, Value.ownBlock] at hq)))
  have HS9 := Lib.hid (Bk.chg HS8.out hc (by have := HG2.out; have := HG7.out; omega) (by have := HG7.out; omega) (by simp [nilV, Value.ownBlock]))
  clear ho hc HNM HO8 HB8 HS8
  have hmm : ∀ W, (Instr.makeMap 64 none).run Tryd.prog W = .ok (.map (some W.heap.size)) (W.alloc (.map #[] 0)) := fun W => by kernel_rfl
  obtain ⟨bh, hbh⟩ : ∃ x, w9.heap.size = x := ⟨_, rfl⟩
  have HRB := Lib.hid (rg_build0 bh)
  obtain ⟨Y, hY⟩ : ∃ Y, (rgC zeroD 0 (.pointer none) (.slice none 0 0) (.map (some bh))).toArray = Y := ⟨_, rfl⟩
  rw [hY] at HRB
  have HYE := Lib.hid hY; have HBH := Lib.hid hbh
  clear hY hbh
  go_upto_region 8 with ((with_reducible refine wpList_build rfl 67 _ rfl #[(4, .map (some bh))] ?_ _ (HRB.out _) ?_); focus (simp [Act.eval, Act.put, HBH.out]; done))
  have hb11 : Below w9.heap.size w9 ((w9.alloc (.map #[] 0)).alloc (.cells Y 67)) := (below_new w9 _).alloc (by simp) _
  have hg79 : g7 + 1 ≤ bh := by have := HS9.out.lt; have := HBH.out; omega
  have hl11 := led_new w9 (lo := g7 + 1) HBH.out hg79 HYE.out
  rw [HBH.out]
  obtain ⟨w11, hw11⟩ : ∃ x, (w9.alloc (.map #[] 0)).alloc (.cells Y 67) = x := ⟨_, rfl⟩
  rw [hw11] at hb11 hl11 ⊢
  have HL11 := Lib.hid hl11; have HO11 := Lib.hid (HO9.out.later hb11); have HS11 := Lib.hid (HS9.out.later hb11); have HB11 := Lib.hid (below_then HB9.out hb11)
  have HG9 := Lib.hid hg79
  clear hb11 hl11 hw11 HRB hmm HYE HO9 HS9 HB9 hg79
  go_loopw [12, 13, 14] (fun _ _ _ wr => ∃ (k : Nat) (V : Value), k ≤ n ∧ lenAt wr (bh + 1) = k ∧ Hid (LedAt wr (g7 + 1) (bh + 1) bh V zeroD 0 (.pointer none) (L.take k)) ∧ Hid (OpB wr w.heap.size g pr (pr + 1) ((L.drop k).flatMap lstB)) ∧ Hid (Bk wr g7 23 (dl sec)) ∧ Hid (Below w.heap.size w wr)) (fun _ _ _ wr => n - lenAt wr (bh + 1))
  case atStart => exact ⟨0, _, Nat.zero_le _, lenAt_is (rg_mem zero_okw HL11.out.bk).c10, HL11, HO11, HS11, HB11⟩
  case round =>
    obtain ⟨k, V, hk, hle, HL, HO, HS, HB⟩ := hrel
    obtain ⟨Ak, ck, rfl⟩ := own_form HL.out.row
    have hlk : (L.take k).length = k := by rw [List.length_take, HN.out]; omega
    have c10 := (rg_mem zero_okw HL.out.bk).c10
    rw [hlk] at c10
    have ce := one_cell HO.out.ke
    have hnl := HNL.out
    by_cases hlt : k < n
    · have hki : (k : Int) < n := by omega
      have hk0 : (0 : Int) ≤ k := by omega
      obtain ⟨d, hd⟩ : ∃ d, L[k]? = some d := ⟨L[k]'(by rw [HN.out]; exact hlt), List.getElem?_eq_getElem _⟩
      have HDO : Hid (DgOk d) := HLO.out d (List.mem_of_getElem? hd)
      have HND := Lib.hid (nd_at HLN.out hd)
      have HTS : Hid (L.take (k + 1) = L.take k ++ [d]) := take_snoc hd
      have hfe := feed_at hd
      rw [hfe] at HO
      have HDG := Lib.hid (odig_any wr w.heap.size g pr (pr + 1) d _ HDO.out HO.out)
      clear hd hfe
      go_wp2_with fail
      clear c10 ce
      refine HDG.out.mono ?_
      rintro e w6 ⟨rfl, ho, hc⟩
      have HO6 := Lib.hid ho; have HB6 := Lib.hid (HB.out.trans (hc.below HB.out.size HG2.out.1 (Nat.le_trans HG2.out.1 (by have := HG2.out; omega)) (fun q hq => by simp [nilV, Value.ownBlock] at hq)))
      have HS6 := Lib.hid (Bk.chg HS.out hc (by have := HG2.out; have := HG7.out; omega) (by have := HG7.out; omega) (by simp [nilV, Value.ownBlock]))
      have HL6 := Lib.hid (HL.out.chg hc (by have := HG2.out; have := HG7.out; omega) (by have := HG7.out; omega))
      clear ho hc HDG HO HB HS HL
      go_wp2_with (with_reducible refine stop_store 23 _ _ rfl ?_)
      refine StopD.go ?_
      obtain ⟨g8, hg8⟩ : ∃ g, w6.heap.size = g := ⟨_, rfl⟩
      have hbn : Below w6.heap.size w6 (w6.alloc (.cells #[.int .u8 0, .int .u8 0, .int .u8 0, .int .u8 0, .int .u8 0, .int .u8 0, .int .u8 0, .int .u8 0] 23)) := below_new w6 _
      have kt : Bk (w6.alloc (.cells #[.int .u8 0, .int .u8 0, .int .u8 0, .int .u8 0, .int .u8 0, .int .u8 0, .int .u8 0, .int .u8 0] 23)) g8 23 ([] ++ (dl zeroD ++ [])) := by rw [← hg8]; exact Bk.new' w6 _ #[.int .u8 0, .int .u8 0, .int .u8 0, .int .u8 0, .int .u8 0, .int .u8 0, .int .u8 0, .int .u8 0] rfl
      rw [hg8]
      refine wpList_store_part rfl 23 _ _ rfl g8 0 (.agg (dl d).toArray) (dl d) rfl rfl rfl 23 [] (dl zeroD) [] kt rfl (by rw [dl_len, dl_len, HDO.out.len]; rfl) (hdg_size _ HDO.out) (dl_one' _) ?_
      intro w8 hp
      have hbn : Below w6.heap.size w6 w8 := hbn.grown hp.only hbn.size (fun q hq => by injection hq with hq; omega)
      have HX8 : Hid (Bk w8 g8 23 (dl d)) := by show Bk _ _ _ _; have := hp.bk; simpa using this
      clear hp kt
      have HO8 := Lib.hid (HO6.out.later hbn); have HB8 := Lib.hid (below_then HB6.out hbn); have HS8 := Lib.hid (HS6.out.later hbn); have HL8 := Lib.hid (HL6.out.later hbn)
      clear hbn hg8 HO6 HB6 HS6 HL6
      go_wp2_with fail
      have HM8 : Hid (LMap w8 bh k (L.take k)) := by have := HL8.out.map; rw [hlk] at this; exact this
      have HLK := Lib.hid (lk_miss HL8.out.ok HL8.out.nd HDO.out HND.out (b := bh) (n := k))
      refine wp_region_held_drew (S := fun w' => Bk w' g8 23 (dl d) ∧ Bk w' (bh + 1) 67 (rgC zeroD 0 (.pointer none) (.slice Ak (L.take k).length ck) (.map (some bh))) ∧ LMap w' bh k (L.take k)) (by kernel_rfl) ⟨Bk.drew HX8.out, Bk.drew HL8.out.bk, World.ownsMap.drew HM8.out⟩ (fun hHeld => ?_)
      have hbd : Below w8.heap.size w8 w8.drew := below_draws w8 w8.heap.size 1
      obtain ⟨wa, hwa⟩ : ∃ wa, w8.drew = wa := ⟨_, rfl⟩
      rw [hwa] at hbd hHeld ⊢
      have HOa := Lib.hid (HO8.out.later hbd); have HBa := Lib.hid (below_then HB8.out hbd); have HSa := Lib.hid (HS8.out.later hbd); have HLa := Lib.hid (HL8.out.later hbd); have HXa := Lib.hid (HX8.out.later hbd)
      clear hwa hbd HO8 HB8 HS8 HL8 HX8 HM8
      simp only [Act.put]
      refine wpAnyH_take (i := 0) (v := ?_) rfl (by kernel_rfl) (by kernel_rfl) (by kernel_rfl) (fun _ _ _ h => h) (Or.inl ⟨by rfl, ?_⟩) (by assumption) ?_
      rotate_left
      · intro w hSw
        (try dsimp only at hSw)
        go_simp
        try with_reducible rfl
      try simp only [Act.put, List.setIfInBounds_toArray, List.set_cons_zero, List.set_cons_succ, List.getElem_toArray, List.getElem_cons_zero, List.getElem_cons_succ]
      refine wpAnyH_take (i := 4) (v := .agg (List.toArray (dl d))) rfl (by kernel_rfl) (by kernel_rfl) (by kernel_rfl) (fun _ _ _ h => h) (yieldsIf_load_mid (by rfl) _ _ rfl _ _ rfl (dl d) _ (fun w hSw => (Bk.range (pre := []) (post := []) (by simpa using hSw.1) rfl)) Tryd.underlying23 rfl (hdg_size _ HDO.out)) (by assumption) ?_
      try simp only [Act.put, List.setIfInBounds_toArray, List.set_cons_zero, List.set_cons_succ, List.getElem_toArray, List.getElem_cons_zero, List.getElem_cons_succ]
      refine wpAnyH_take (i := 1) (v := ?_) rfl (by kernel_rfl) (by kernel_rfl) (by kernel_rfl) (fun _ _ _ h => h) (Or.inl ⟨by rfl, ?_⟩) (by assumption) ?_
      rotate_left
      · intro w hSw
        (try dsimp only at hSw)
        go_simp
        try with_reducible rfl
      try simp only [Act.put, List.setIfInBounds_toArray, List.set_cons_zero, List.set_cons_succ, List.getElem_toArray, List.getElem_cons_zero, List.getElem_cons_succ]
      refine wpAnyH_take (i := 2) (v := ?_) rfl (by kernel_rfl) (by kernel_rfl) (by kernel_rfl) (fun _ _ _ h => h) (Or.inl ⟨by rfl, ?_⟩) (by assumption) ?_
      rotate_left
      · intro w hSw
        (try dsimp only at hSw)
        go_simp
        try with_reducible rfl
      try simp only [Act.put, List.setIfInBounds_toArray, List.set_cons_zero, List.set_cons_succ, List.getElem_toArray, List.getElem_cons_zero, List.getElem_cons_succ]
      refine wpAnyH_take (i := 3) (v := ?_) rfl (by kernel_rfl) (by kernel_rfl) (by kernel_rfl) (fun _ _ _ h => h) (Or.inl ⟨by rfl, ?_⟩) (by assumption) ?_
      rotate_left
      · intro w hSw
        have hcell := (rg_mem zero_okw hSw.2.1).c11
        clear hSw
        go_simp
        try with_reducible rfl
      try simp only [Act.put, List.setIfInBounds_toArray, List.set_cons_zero, List.set_cons_succ, List.getElem_toArray, List.getElem_cons_zero, List.getElem_cons_succ]
      refine wpAnyH_take (i := 5) (v := ?_) rfl (by kernel_rfl) (by kernel_rfl) (by kernel_rfl) (fun _ _ _ h => h) (Or.inl ⟨by rfl, ?_⟩) (by assumption) ?_
      rotate_left
      · intro w hSw
        have hcell := (HLK.out _ hSw.2.2)
        clear hSw
        go_simp
        try with_reducible rfl
      try simp only [Act.put, List.setIfInBounds_toArray, List.set_cons_zero, List.set_cons_succ, List.getElem_toArray, List.getElem_cons_zero, List.getElem_cons_succ]
      refine wpAnyH_take (i := 6) (v := ?_) rfl (by kernel_rfl) (by kernel_rfl) (by kernel_rfl) (fun _ _ _ h => h) (Or.inl ⟨by rfl, ?_⟩) (by assumption) ?_
      rotate_left
      · intro w hSw
        (try dsimp only at hSw)
        go_simp
        try with_reducible rfl
      try simp only [Act.put, List.setIfInBounds_toArray, List.set_cons_zero, List.set_cons_succ, List.getElem_toArray, List.getElem_cons_zero, List.getElem_cons_succ]
      refine wpAnyH_take (i := 7) (v := ?_) rfl (by kernel_rfl) (by kernel_rfl) (by kernel_rfl) (fun _ _ _ h => h) (Or.inl ⟨by rfl, ?_⟩) (by assumption) ?_
      rotate_left
      · intro w hSw
        (try dsimp only at hSw)
        go_simp
        try with_reducible rfl
      try simp only [Act.put, List.setIfInBounds_toArray, List.set_cons_zero, List.set_cons_succ, List.getElem_toArray, List.getElem_cons_zero, List.getElem_cons_succ]
      refine wpAnyH_take (i := 8) (v := ?_) rfl (by kernel_rfl) (by kernel_rfl) (by kernel_rfl) (fun _ _ _ h => h) (Or.inl ⟨by rfl, ?_⟩) (by assumption) ?_
      rotate_left
      · intro w hSw
        (try dsimp only at hSw)
        go_simp
        try with_reducible rfl
      try simp only [Act.put, List.setIfInBounds_toArray, List.set_cons_zero, List.set_cons_succ, List.getElem_toArray, List.getElem_cons_zero, List.getElem_cons_succ]
      refine wpAnyH_take (i := 9) (v := ?_) rfl (by kernel_rfl) (by kernel_rfl) (by kernel_rfl) (fun _ _ _ h => h) (Or.inl ⟨by rfl, ?_⟩) (by assumption) ?_
      rotate_left
      · intro w hSw
        (try dsimp only at hSw)
        go_simp
        try with_reducible rfl
      try simp only [Act.put, List.setIfInBounds_toArray, List.set_cons_zero, List.set_cons_succ, List.getElem_toArray, List.getElem_cons_zero, List.getElem_cons_succ]
      refine wpAnyH_take (i := 10) (v := ?_) rfl (by kernel_rfl) (by kernel_rfl) (by kernel_rfl) (fun _ _ _ h => h) (Or.inl ⟨by rfl, ?_⟩) (by assumption) ?_
      rotate_left
      · intro w hSw
        (try dsimp only at hSw)
        go_simp
        try with_reducible rfl
      try simp only [Act.put, List.setIfInBounds_toArray, List.set_cons_zero, List.set_cons_succ, List.getElem_toArray, List.getElem_cons_zero, List.getElem_cons_succ]
      refine wpAnyH_done (by kernel_rfl) ?_ _
      clear hHeld HLK
      go_wp2_with (with_reducible refine wpList_load_bk rfl 23 _ rfl g8 rfl (dl d) 23 HXa.out _ Tryd.underlying23 rfl (hdg_size _ HDO.out) ?_)
      refine (take_anyW wa _ _ _ _ _ _ _ _ HLa.out zero_okw d HDO.out HND.out (by rw [hlk]; omega)).mono ?_
      rintro e wb ⟨rfl, V', hk', hc, hv⟩
      have hbl : Below (g7 + 1) wa wb := hc.below (Nat.le_of_lt (Nat.lt_of_le_of_lt HLa.out.glo HLa.out.lt)) HLa.out.glo HLa.out.blo HLa.out.vlo
      have HOb := Lib.hid (HOa.out.below hbl (by have := HG7.out; omega)); have HSb := Lib.hid (HSa.out.below hbl (Nat.lt_succ_self _)); have HBb := Lib.hid (HBa.out.trans (hbl.mono (by have := HG7.out; omega)))
      have HLb : Hid (LedAt wb (g7 + 1) (bh + 1) bh V' zeroD 0 (.pointer none) (L.take (k + 1))) := by show LedAt _ _ _ _ _ _ _ _ _; rw [HTS.out]; exact hk'
      clear hk' hc hv hbl HOa HBa HSa HLa HXa
      go_wp2_with fail
      obtain ⟨Ab, cb, rfl⟩ := own_form HLb.out.row
      have hlk2 : (L.take (k + 1)).length = k + 1 := by rw [List.length_take, HN.out]; omega
      have hlb : lenAt wb (bh + 1) = k + 1 := by
        have := (rg_mem zero_okw HLb.out.bk).c10
        rw [hlk2] at this
        exact lenAt_is this
      go_roundw
      case rel => exact ⟨k + 1, _, hlt, hlb, HLb, HOb, HSb, HBb⟩
      case measure => rw [hlb, hle]; omega
    · have hki : ¬ ((k : Int) < n) := by omega
      obtain rfl : k = n := by omega
      have htk : L.take k = L := List.take_of_length_le (by rw [HN.out]; exact Nat.le_refl _)
      have hdk : L.drop k = [] := List.drop_eq_nil_of_le (by rw [HN.out]; exact Nat.le_refl _)
      rw [hdk] at HO
      rw [htk] at HL
      have cr := one_cell HO.out.kr
      have hend : endR ⟨([] : List (List Int)).flatMap lstB, 0⟩ = 0 := rfl
      have HEN := Lib.hid (rdEnd_any wr g _ HO.out.rd)
      rw [hend] at HEN
      go_wp2_with fail
      clear cr ce c10
      refine HEN.out.mono ?_
      rintro e wa ⟨rfl, q, hq⟩
      have hbn : Below wr.heap.size wr wa := hq ▸ below_draws wr _ q
      have HOa := Lib.hid (HO.out.later hbn); have HBa := Lib.hid (below_then HB.out hbn); have HSa := Lib.hid (HS.out.later hbn); have HLa := Lib.hid (HL.out.later hbn)
      clear hbn hq hend HEN HO HB HS HL
      go_wp2_with (with_reducible refine stop_store 26 _ _ rfl ?_)
      refine StopD.go ?_
      refine wpList_store_part rfl 26 _ _ rfl (pr + 1) 0 (.int .i64 0) [.int .i64 0] rfl rfl rfl 26 [] [.int .i64 0] [] (by simpa using HOa.out.ke) rfl rfl (by kernel_rfl) (by simp [Value.oneCell']) ?_
      intro wb hp
      have HEb : Hid (Bk wb (pr + 1) 26 [.int .i64 0]) := by show Bk _ _ _ _; have := hp.bk; simpa using this
      have hne1 := (rg_mem zero_okw HLa.out.bk).c10
      have HSb := Lib.hid (HSa.out.grown hp.only (by intro e; injection e with e; have := HG7.out; omega))
      have HLb := Lib.hid (HLa.out.apart hp.only (by have := HG9.out; have := HG7.out; omega) (by have := HG9.out; have := HG7.out; omega) (fun e => by have := HLa.out.vlo _ e; have := HG7.out; omega))
      have HBb := Lib.hid (below_only HBa.out hp.only HBa.out.size (by have := HG2.out; omega))
      clear hp hne1 HOa HSa HLa HBa
      have ce := one_cell HEb.out
      have HKN := Lib.hid (knew_any wb sec HSO.out h HHH.out)
      go_wp2_with (with_reducible refine wpList_load_bk rfl 23 _ rfl g7 rfl (dl sec) 23 HSb.out _ Tryd.underlying23 rfl (hdg_size _ HSO.out) ?_)
      clear ce
      refine HKN.out.mono ?_
      rintro e wc ⟨gr, br, T, tlo, thi, rfl, hr, hbn⟩
      have HEc := Lib.hid (HEb.out.later hbn); have HLc := Lib.hid (HLb.out.later hbn); have HBc := Lib.hid (below_then HBb.out hbn); have HRc := Lib.hid hr
      have HWB : Hid (wb.heap.size ≤ gr ∧ pr + 1 < wb.heap.size ∧ wb.heap.size ≤ tlo) := ⟨hr.led.glo, HEb.out.lt, hr.tl⟩
      have HLL : Hid (bh + 1 < wb.heap.size ∧ bh < wb.heap.size ∧ ∀ q, (Value.slice Ak L.length ck).ownBlock = some q → q < wb.heap.size) := ⟨HLb.out.lt, World.ownsMap.lt HLb.out.map, fun q hq => (World.ownsRow.lt HLb.out.row q hq).2⟩
      clear hr hbn HKN HEb HLb HBb HSb
      go_wp2_with (with_reducible refine stop_store 26 _ _ rfl ?_)
      refine StopD.go ?_
      refine wpList_store_part rfl 26 _ _ rfl (pr + 1) 0 (.int .i64 0) [.int .i64 0] rfl rfl rfl 26 [] [.int .i64 0] [] (by simpa using HEc.out) rfl rfl (by kernel_rfl) (by simp [Value.oneCell']) ?_
      intro wd hp
      have HEd : Hid (Bk wd (pr + 1) 26 [.int .i64 0]) := by show Bk _ _ _ _; have := hp.bk; simpa using this
      have HLd := Lib.hid (HLc.out.apart hp.only (by have := HG9.out; have := HG7.out; omega) (by have := HG9.out; have := HG7.out; omega) (fun e => by have := HLc.out.vlo _ e; have := HG7.out; omega))
      have HRd := Lib.hid (HRc.out.apart hp.only (by have := HWB.out; omega) (by have := HRc.out.led.blo; have := HWB.out; omega) (fun e => by simp [Value.ownBlock] at e) (by have := HWB.out; omega))
      have HBd := Lib.hid (below_only HBc.out hp.only HBc.out.size (by have := HG2.out; omega))
      clear hp HEc HLc HRc HBc
      have ce := one_cell HEd.out
      go_wp2_with fail
      clear ce
      refine wp_region_held_drew (S := fun w' => Bk w' (bh + 1) 67 (rgC zeroD 0 (.pointer none) (.slice Ak L.length ck) (.map (some bh)))) (by kernel_rfl) (Bk.drew HLd.out.bk) (fun hHeld => ?_)
      have hbd : Below wd.heap.size wd wd.drew := below_draws wd wd.heap.size 1
      obtain ⟨we, hwe⟩ : ∃ wa, wd.drew = wa := ⟨_, rfl⟩
      rw [hwe] at hbd hHeld ⊢
      have HLe := Lib.hid (HLd.out.later hbd); have HRe := Lib.hid (HRd.out.later hbd); have HBe := Lib.hid (below_then HBd.out hbd)
      clear hwe hbd HLd HRd HBd HEd
      refine wpAnyH_take (i := 0) (v := ?_) rfl (by kernel_rfl) (by kernel_rfl) (by kernel_rfl) (fun _ _ _ h => h) (Or.inl ⟨by rfl, ?_⟩) (by assumption) ?_
      rotate_left
      · intro w hSw
        (try dsimp only at hSw)
        go_simp
        try with_reducible rfl
      try simp only [Act.put, List.setIfInBounds_toArray, List.set_cons_zero, List.set_cons_succ, List.getElem_toArray, List.getElem_cons_zero, List.getElem_cons_succ]
      refine wpAnyH_take (i := 1) (v := ?_) rfl (by kernel_rfl) (by kernel_rfl) (by kernel_rfl) (fun _ _ _ h => h) (Or.inl ⟨by rfl, ?_⟩) (by assumption) ?_
      rotate_left
      · intro w hSw
        (try dsimp only at hSw)
        go_simp
        try with_reducible rfl
      try simp only [Act.put, List.setIfInBounds_toArray, List.set_cons_zero, List.set_cons_succ, List.getElem_toArray, List.getElem_cons_zero, List.getElem_cons_succ]
      refine wpAnyH_take (i := 2) (v := ?_) rfl (by kernel_rfl) (by kernel_rfl) (by kernel_rfl) (fun _ _ _ h => h) (Or.inl ⟨by rfl, ?_⟩) (by assumption) ?_
      rotate_left
      · intro w hSw
        (try dsimp only at hSw)
        go_simp
        try with_reducible rfl
      try simp only [Act.put, List.setIfInBounds_toArray, List.set_cons_zero, List.set_cons_succ, List.getElem_toArray, List.getElem_cons_zero, List.getElem_cons_succ]
      refine wpAnyH_take (i := 6) (v := ?_) rfl (by kernel_rfl) (by kernel_rfl) (by kernel_rfl) (fun _ _ _ h => h) (Or.inl ⟨by rfl, ?_⟩) (by assumption) ?_
      rotate_left
      · intro w hSw
        (try dsimp only at hSw)
        go_simp
        try with_reducible rfl
      try simp only [Act.put, List.setIfInBounds_toArray, List.set_cons_zero, List.set_cons_succ, List.getElem_toArray, List.getElem_cons_zero, List.getElem_cons_succ]
      refine wpAnyH_take (i := 3) (v := ?_) rfl (by kernel_rfl) (by kernel_rfl) (by kernel_rfl) (fun _ _ _ h => h) (Or.inl ⟨by rfl, ?_⟩) (by assumption) ?_
      rotate_left
      · intro w hSw
        (try dsimp only at hSw)
        go_simp
        try with_reducible rfl
      try simp only [Act.put, List.setIfInBounds_toArray, List.set_cons_zero, List.set_cons_succ, List.getElem_toArray, List.getElem_cons_zero, List.getElem_cons_succ]
      refine wpAnyH_take (i := 7) (v := ?_) rfl (by kernel_rfl) (by kernel_rfl) (by kernel_rfl) (fun _ _ _ h => h) (Or.inl ⟨by rfl, ?_⟩) (by assumption) ?_
      rotate_left
      · intro w hSw
        (try dsimp only at hSw)
        go_simp
        try with_reducible rfl
      try simp only [Act.put, List.setIfInBounds_toArray, List.set_cons_zero, List.set_cons_succ, List.getElem_toArray, List.getElem_cons_zero, List.getElem_cons_succ]
      refine wpAnyH_take (i := 4) (v := ?_) rfl (by kernel_rfl) (by kernel_rfl) (by kernel_rfl) (fun _ _ _ h => h) (Or.inl ⟨by rfl, ?_⟩) (by assumption) ?_
      rotate_left
      · intro w hSw
        (try dsimp only at hSw)
        go_simp
        try with_reducible rfl
      try simp only [Act.put, List.setIfInBounds_toArray, List.set_cons_zero, List.set_cons_succ, List.getElem_toArray, List.getElem_cons_zero, List.getElem_cons_succ]
      refine wpAnyH_take (i := 8) (v := ?_) rfl (by kernel_rfl) (by kernel_rfl) (by kernel_rfl) (fun _ _ _ h => h) (Or.inl ⟨by rfl, ?_⟩) (by assumption) ?_
      rotate_left
      · intro w hSw
        (try dsimp only at hSw)
        go_simp
        try with_reducible rfl
      try simp only [Act.put, List.setIfInBounds_toArray, List.set_cons_zero, List.set_cons_succ, List.getElem_toArray, List.getElem_cons_zero, List.getElem_cons_succ]
      refine wpAnyH_take (i := 5) (v := ?_) rfl (by kernel_rfl) (by kernel_rfl) (by kernel_rfl) (fun _ _ _ h => h) (Or.inl ⟨by rfl, ?_⟩) (by assumption) ?_
      rotate_left
      · intro w hSw
        have hcell := (rg_mem zero_okw hSw).c10
        clear hSw
        go_simp
        try with_reducible rfl
      try simp only [Act.put, List.setIfInBounds_toArray, List.set_cons_zero, List.set_cons_succ, List.getElem_toArray, List.getElem_cons_zero, List.getElem_cons_succ]
      refine wpAnyH_take (i := 9) (v := ?_) rfl (by kernel_rfl) (by kernel_rfl) (by kernel_rfl) (fun _ _ _ h => h) (Or.inl ⟨by rfl, ?_⟩) (by assumption) ?_
      rotate_left
      · intro w hSw
        have hcell := (rg_mem zero_okw hSw).c11
        clear hSw
        go_simp
        try with_reducible rfl
      try simp only [Act.put, List.setIfInBounds_toArray, List.set_cons_zero, List.set_cons_succ, List.getElem_toArray, List.getElem_cons_zero, List.getElem_cons_succ]
      refine wpAnyH_take (i := 10) (v := ?_) rfl (by kernel_rfl) (by kernel_rfl) (by kernel_rfl) (fun _ _ _ h => h) (Or.inl ⟨by rfl, ?_⟩) (by assumption) ?_
      rotate_left
      · intro w hSw
        (try dsimp only at hSw)
        go_simp
        try with_reducible rfl
      try simp only [Act.put, List.setIfInBounds_toArray, List.set_cons_zero, List.set_cons_succ, List.getElem_toArray, List.getElem_cons_zero, List.getElem_cons_succ]
      refine wpAnyH_take (i := 11) (v := ?_) rfl (by kernel_rfl) (by kernel_rfl) (by kernel_rfl) (fun _ _ _ h => h) (Or.inl ⟨by rfl, ?_⟩) (by assumption) ?_
      rotate_left
      · intro w hSw
        (try dsimp only at hSw)
        go_simp
        try with_reducible rfl
      try simp only [Act.put, List.setIfInBounds_toArray, List.set_cons_zero, List.set_cons_succ, List.getElem_toArray, List.getElem_cons_zero, List.getElem_cons_succ]
      have hne : gr ≠ bh + 1 := by have := HWB.out; have := HLL.out; omega
      have ls := HSO.out.len
      refine wpAnyH_ready (rs := [12]) (by kernel_rfl) (by simp) ?_
      refine AllReadyH.cons rfl (fun K hK => ?_) AllReadyH.nil
      rw [if_pos (by rfl)]
      refine wp_store_part _ _ _ rfl gr 10 _ ([.slice Ak L.length ck]) rfl rfl rfl _ (dl sec ++ [.int .i64 h, .pointer (some ⟨T.g, 0, none⟩)]) ([.slice none 0 0]) ([.map (some br)]) (by have := HRe.out.led.bk; simpa [rgC] using this) (by simp [dl_len, ls]) rfl (by kernel_rfl) (by simp [Value.oneCell']) ?_
      intro wf hp
      refine hK.out _ _ (HLe.out.bk.grown hp.only (by intro e; injection e with e; exact hne e.symm)) (fun hHeld => ?_)
      clear hK K
      try simp only [Act.put, List.setIfInBounds_toArray, List.set_cons_zero, List.set_cons_succ, List.getElem_toArray, List.getElem_cons_zero, List.getElem_cons_succ]
      have HGf : Hid (Bk wf gr 67 (rgC sec h (.pointer (some ⟨T.g, 0, none⟩)) (.slice Ak L.length ck) (.map (some br)))) := by show Bk _ _ _ _; have := hp.bk; simpa [rgC] using this
      have HLf := Lib.hid (HLe.out.apart hp.only hne (by have := HWB.out; have := HLL.out; omega) (fun e => by have := HLL.out.2.2 _ e; have := HWB.out; omega))
      have HTf : Hid (TreeOf wf tlo thi T (leavesI sec h)) := HRe.out.tree.keep hp.only.size fun i h5 h6 => hp.only.block i (Nat.lt_of_lt_of_le h6 HRe.out.tree.hi_le) (by intro e; injection e with e; have := HRe.out.tg; omega)
      have HBf := Lib.hid (below_only HBe.out hp.only HBe.out.size (by have := HWB.out; have := HG2.out; omega))
      have HTG := Lib.hid HRe.out.tg
      clear hp HLe HRe HBe
      refine wpAnyH_take (i := 13) (v := ?_) rfl (by kernel_rfl) (by kernel_rfl) (by kernel_rfl) (fun _ _ _ h => h) (Or.inl ⟨by rfl, ?_⟩) (by assumption) ?_
      rotate_left
      · intro w hSw
        (try dsimp only at hSw)
        go_simp
        try with_reducible rfl
      try simp only [Act.put, List.setIfInBounds_toArray, List.set_cons_zero, List.set_cons_succ, List.getElem_toArray, List.getElem_cons_zero, List.getElem_cons_succ]
      refine wpAnyH_take (i := 14) (v := ?_) rfl (by kernel_rfl) (by kernel_rfl) (by kernel_rfl) (fun _ _ _ h => h) (Or.inl ⟨by rfl, ?_⟩) (by assumption) ?_
      rotate_left
      · intro w hSw
        (try dsimp only at hSw)
        go_simp
        try with_reducible rfl
      try simp only [Act.put, List.setIfInBounds_toArray, List.set_cons_zero, List.set_cons_succ, List.getElem_toArray, List.getElem_cons_zero, List.getElem_cons_succ]
      refine wpAnyH_ready (rs := [15]) (by kernel_rfl) (by simp) ?_
      refine AllReadyH.cons rfl (fun K hK => ?_) AllReadyH.nil
      rw [if_pos (by rfl)]
      refine wp_store_part _ _ _ rfl gr 11 _ ([.map (some bh)]) rfl rfl rfl _ (dl sec ++ [.int .i64 h, .pointer (some ⟨T.g, 0, none⟩), .slice Ak L.length ck]) ([.map (some br)]) ([]) (by have := HGf.out; simpa [rgC] using this) (by simp [dl_len, ls]) rfl (by kernel_rfl) (by simp [Value.oneCell']) ?_
      intro wg hp
      refine hK.out _ _ (HLf.out.bk.grown hp.only (by intro e; injection e with e; exact hne e.symm)) (fun hHeld => ?_)
      clear hK K
      try simp only [Act.put, List.setIfInBounds_toArray, List.set_cons_zero, List.set_cons_succ, List.getElem_toArray, List.getElem_cons_zero, List.getElem_cons_succ]
      have HGg : Hid (Bk wg gr 67 (rgC sec h (.pointer (some ⟨T.g, 0, none⟩)) (.slice Ak L.length ck) (.map (some bh)))) := by show Bk _ _ _ _; have := hp.bk; simpa [rgC] using this
      have HLg := Lib.hid (HLf.out.apart hp.only hne (by have := HWB.out; have := HLL.out; omega) (fun e => by have := HLL.out.2.2 _ e; have := HWB.out; omega))
      have HTg : Hid (TreeOf wg tlo thi T (leavesI sec h)) := HTf.out.keep hp.only.size fun i h5 h6 => hp.only.block i (Nat.lt_of_lt_of_le h6 HTf.out.hi_le) (by intro e; injection e with e; have := HTG.out; omega)
      have HBg := Lib.hid (below_only HBf.out hp.only HBf.out.size (by have := HWB.out; have := HG2.out; omega))
      clear hp HGf HLf HTf HBf
      refine wpAnyH_done (by kernel_rfl) ?_ _
      clear hHeld
      go_wp2_with fail
      go_ret2
      have hbl : w.heap.size ≤ bh := by have := HG7.out; have := HG9.out; omega
      refine ⟨gr, bh, _, T, tlo, thi, rfl, ⟨⟨HGg.out, own_base HLg.out.row (by have := HG7.out; omega), HLg.out.map, by have := HWB.out; have := HG2.out; omega, hbl, HLO.out, HLN.out⟩, HTg.out, by have := HWB.out; have := HG2.out; omega, HTG.out, .inl (by have := HWB.out; have := HLL.out; omega), fun q hq => .inl (by have := HLL.out.2.2 q hq; have := HWB.out; omega), HHH.out, HSO.out, ?_⟩, HBg.out⟩
      rw [HN.out, HPE.out]; exact HLE.out
end Go.Proofs.YtakfdlokgddaoaaDoor
