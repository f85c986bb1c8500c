/- Eight bytes as the document reads them. -/
import Derived.Test.YthibihjblodfmaaQ11
import Derived.Test.YthibihjblodfmaaOC
namespace Go.Proofs.Ythibihjblodfmaa
open Go.RowKit

def eightR (s : Rd) : Rd × List Int :=
  if (someR s 8).1.err = 0 then (if (someR s 8).2.length = 8 then ((someR s 8).1, (someR s 8).2) else (⟨(someR s 8).1.rest, 3⟩, zeroD)) else ((someR s 8).1, zeroD)
def Ret8 (B : Nat) (q : Rd × List Int) (w : World) (e : Ending) (w' : World) : Prop := ∃ v, e = .returned (.tuple #[v, .agg (dl q.2).toArray]) ∧ RvAt w' B v q.1 ∧ Below w.heap.size w w'
theorem eightR_ok {s : Rd} (hs : ByOk s.rest) : DgOk (eightR s).2 := by
  unfold eightR
  split
  · split
    · rename_i h1 h2; exact ⟨h2, some_ok hs⟩
    · exact zero_ok
  · exact zero_ok
theorem eight_ret {w : World} {g g' : Nat} {t : List Int} {a b c : Value} (ht : t.length = 8) (h : Bk w g 136 [a, b, c]) (h' : Bk w g' 22 (dl t)) (tmps : Array Value) (h2 : tmps.getD 2 undef = .pointer (some ⟨g, 0, none⟩)) (h3 : tmps.getD 3 undef = .pointer (some ⟨g', 0, none⟩)) :
    (results Try.f75 tmps).run Try.prog w = .ok (.tuple #[.agg #[a, b, c], .agg (dl t).toArray]) w := by
  have r1 : w.rangeAt g 0 [a, b, c] := Bk.range (pre := []) (post := []) (by simpa using h) rfl
  have r2 : w.rangeAt g' 0 (dl t) := Bk.range (pre := []) (post := []) (by simpa using h') rfl
  have l1 := run_loadVar_mid (P := Try.prog) w g 0 136 [a, b, c] _ r1 Try.underlying136 rfl (by kernel_rfl)
  have l2 := run_loadVar_mid (P := Try.prog) w g' 0 22 (dl t) _ r2 Try.underlying22 rfl (by rw [dl_len, ht]; kernel_rfl)
  rw [Array.getD_eq_getD_getElem?] at h2 h3
  simp [results, Try.results75, h2, h3, asAddr, l1, l2]
theorem three_one {A : Option Addr} {n c : Nat} {a b : Int} : ∀ v ∈ [Value.slice A n c, .int .i64 a, .int .i64 b], v.oneCell' = true := by
  intro v hv; simp at hv; rcases hv with rfl | rfl | rfl <;> rfl
theorem fill_step {b : List Int} (hb : b.length = 8) {i : Nat} (hi : i < 8) {z : Int} (hz : b[i]? = some z) : (b.take i ++ zeroD.drop i).set i z = b.take (i + 1) ++ zeroD.drop (i + 1) := by
  obtain ⟨b0, b1, b2, b3, b4, b5, b6, b7, rfl⟩ := list8 b hb
  have : i = 0 ∨ i = 1 ∨ i = 2 ∨ i = 3 ∨ i = 4 ∨ i = 5 ∨ i = 6 ∨ i = 7 := by omega
  rcases this with rfl | rfl | rfl | rfl | rfl | rfl | rfl | rfl <;> simp at hz <;> subst hz <;> rfl
set_option maxRecDepth 20000 in
set_option maxHeartbeats 8000000 in
theorem eight_any (w : World) (B : Nat) (hB : B ≤ w.heap.size) (v : Value) (s : Rd) (h : RvAt w B v s) : Calls Try.prog 75 #[v] w (Ret8 B (eightR s) w) := by
  have hv := h
  obtain ⟨A, n, c, bs, k, rfl, -, -, -, -, -, -⟩ := h
  obtain ⟨w1, hw1⟩ : ∃ w1, ((w.alloc (.cells #[.slice A n c, .int .i64 (k : Int), .int .i64 s.err] 136)).alloc (.cells #[.slice none 0 0, .int .i64 0, .int .i64 0] 136)).alloc (.cells #[.int .u8 0, .int .u8 0, .int .u8 0, .int .u8 0, .int .u8 0, .int .u8 0, .int .u8 0, .int .u8 0] 22) = w1 := ⟨_, rfl⟩
  have hz1 : w1.heap.size = w.heap.size + 3 := by rw [← hw1]; simp
  have hb1 : Below w.heap.size w w1 := hw1 ▸ ((below_new w _).alloc (by simp) _).alloc (by simp; omega) _
  have kr : Bk w1 w.heap.size 136 ([] ++ ([.slice A n c, .int .i64 (k : Int), .int .i64 s.err] ++ [])) := hw1 ▸ ((Bk.new' w _ #[.slice A n c, .int .i64 (k : Int), .int .i64 s.err] rfl).alloc _).alloc _
  have kx : Bk w1 (w.heap.size + 1) 136 ([] ++ ([.slice none 0 0, .int .i64 0, .int .i64 0] ++ [])) := hw1 ▸ (Bk.at_ _ _ #[.slice none 0 0, .int .i64 0, .int .i64 0] (by simp) rfl).alloc _
  have ky : Bk w1 (w.heap.size + 2) 22 ([] ++ (dl zeroD ++ [])) := hw1 ▸ Bk.at_ _ _ #[.int .u8 0, .int .u8 0, .int .u8 0, .int .u8 0, .int .u8 0, .int .u8 0, .int .u8 0, .int .u8 0] (by simp) rfl
  have HW := Lib.hid hw1; have HB1 := Lib.hid hb1; have HK1 := Lib.hid kr; have HX1 := Lib.hid kx; have HY1 := Lib.hid ky
  have HVV := Lib.hid (hv.below (hb1.mono hB))
  obtain ⟨p, hp⟩ : ∃ p, someR s 8 = p := ⟨_, rfl⟩
  obtain ⟨o, ho⟩ : ∃ o, eightR s = o := ⟨_, rfl⟩
  rw [ho]
  have HP := Lib.hid hp; have HO1 := Lib.hid ho
  have hc0 : w1.cell? ⟨w.heap.size, 0, none⟩ = some (.slice A n c) := (cells3 kr).1
  have hc1 : w1.cell? ⟨w.heap.size, 1, none⟩ = some (.int .i64 (k : Int)) := (cells3 kr).2.1
  have hc2 : w1.cell? ⟨w.heap.size, 2, none⟩ = some (.int .i64 s.err) := (cells3 kr).2.2
  clear hw1 hb1 kr kx ky hv hp ho
  go_enter Try.func75, Try.ntmps75
  go_upto_region 1 with fail
  rw [HW.out]
  go_wp2_with fail
  refine (rSome_any _ B (by omega) _ s HVV.out 8 (by omega) (by omega)).mono ?_
  rw [HP.out]
  rintro e w2 ⟨v2, b2, rfl, ⟨A2, n2, c2, bs2, k2, rfl, g2, g3, g4, g5, g6, g7⟩, hown, hbn⟩
  obtain ⟨Ab, cb, rfl⟩ := own_form hown
  have HV2 : Hid (∀ e, RvAt w2 B (.agg #[.slice A2 n2 c2, .int .i64 (k2 : Int), .int .i64 e]) ⟨p.1.rest, e⟩) := fun e => ⟨A2, n2, c2, bs2, k2, rfl, g2, g3, g4, g5, g6, g7⟩
  have HB2 := Lib.hid (below_then HB1.out hbn)
  have HK2 := Lib.hid (HK1.out.later hbn); have HX2 := Lib.hid (HX1.out.later hbn); have HY2 := Lib.hid (HY1.out.later hbn)
  have hz2 : w1.heap.size ≤ w2.heap.size := hbn.size
  have HOW2 := Lib.hid hown
  clear hbn hown g2 g3 g4 g5 g6 g7 hc0 hc1 hc2
  go_wp2_with (with_reducible refine stop_store 136 _ _ rfl ?_)
  refine StopD.go ?_
  refine wpList_store_part rfl 136 _ _ rfl w.heap.size 0 (.agg #[.slice A2 n2 c2, .int .i64 (k2 : Int), .int .i64 p.1.err]) [.slice A2 n2 c2, .int .i64 (k2 : Int), .int .i64 p.1.err] rfl rfl rfl 136 [] [.slice A n c, .int .i64 (k : Int), .int .i64 s.err] [] HK2.out rfl rfl (by kernel_rfl) (by intro v hv; simp at hv; rcases hv with rfl | rfl | rfl <;> rfl) ?_
  intro w3 hp3
  have HK3 : Hid (Bk w3 w.heap.size 136 [.slice A2 n2 c2, .int .i64 (k2 : Int), .int .i64 p.1.err]) := by show Bk _ _ _ _; have := hp3.bk; simpa using this
  have hgr := hp3.only
  have HOW3 := Lib.hid (own_only HOW2.out hgr (own_bk_ne HOW2.out HK2.out (by decide)))
  have HB3 := Lib.hid (HB2.out.grown hgr HB2.out.size (fun q hq => by injection hq with hq; omega))
  have hzz := HB2.out.size
  have HV3 : Hid (∀ e, RvAt w3 B (.agg #[.slice A2 n2 c2, .int .i64 (k2 : Int), .int .i64 e]) ⟨p.1.rest, e⟩) := fun e => (HV2.out e).below ((Below.refl B w2).grown hgr (by omega) (fun q hq => by injection hq with hq; omega))
  have HX3 := Lib.hid (HX2.out.grown hgr (by intro h; injection h with h; omega))
  have HY3 := Lib.hid (HY2.out.grown hgr (by intro h; injection h with h; omega))
  have hz3 : w2.heap.size ≤ w3.heap.size := hgr.size
  clear hgr
  clear hp3
  have hg2 : w3.cell? ⟨w.heap.size, 2, none⟩ = some (.int .i64 p.1.err) := (cells3 HK3.out).2.2
  by_cases he : p.1.err = 0
  · have he1 : (p.1.err == 0) = true := by simp [he]
    have he2 : (p.1.err != 0) = false := by simp [he]
    by_cases hl : p.2.length = 8
    · have HO : Hid (o = (p.1, p.2)) := by show _ = _; rw [← HO1.out, eightR, HP.out, if_pos he, if_pos hl]
      rw [hl] at HOW3 ⊢
      obtain ⟨gb, cap, e2, hr2, hgb⟩ : ∃ (gb cap : Nat), (Value.slice Ab 8 cb) = .slice (some ⟨gb, 0, none⟩) 8 cap ∧ w3.rangeAt gb 0 (dl p.2) ∧ gb < w3.heap.size := by
        obtain ⟨g2, cap, e, _, hlt⟩ := HOW3.out.form (by omega)
        refine ⟨g2, cap, e, fun j v hv => ?_, hlt⟩
        have := HOW3.out.cells (by rw [e]; rfl) j v hv
        have e8 : (⟨g2, 0, none⟩ : Addr).add j = ⟨g2, 0 + j, none⟩ := by unfold Addr.add; split <;> simp_all
        rw [← e8]; exact this
      injection e2 with e2 e3 e4
      subst e2 e4
      have HR8 := Lib.hid hr2
      have HL8 := Lib.hid hl
      have HE0 := Lib.hid he
      clear hr2 hl he
      go_wp2_with (with_reducible refine stop_store 22 _ _ rfl ?_)
      refine StopD.go ?_
      obtain ⟨q, hq⟩ : ∃ q, w3.heap.size = q := ⟨_, rfl⟩
      have hbn : Below w3.heap.size w3 (w3.alloc (.cells #[.int .u8 0, .int .u8 0, .int .u8 0, .int .u8 0, .int .u8 0, .int .u8 0, .int .u8 0, .int .u8 0] 22)) := below_new w3 _
      have kt : Bk (w3.alloc (.cells #[.int .u8 0, .int .u8 0, .int .u8 0, .int .u8 0, .int .u8 0, .int .u8 0, .int .u8 0, .int .u8 0] 22)) q 22 ([] ++ (dl zeroD ++ [])) := by rw [← hq]; exact Bk.new' w3 _ #[.int .u8 0, .int .u8 0, .int .u8 0, .int .u8 0, .int .u8 0, .int .u8 0, .int .u8 0, .int .u8 0] rfl
      rw [hq]
      refine wpList_store_part rfl 22 _ _ rfl q 0 (.agg (dl zeroD).toArray) (dl zeroD) rfl rfl rfl 22 [] (dl zeroD) [] kt rfl rfl (by kernel_rfl) (dl_one zeroD) ?_
      intro w4 hp
      have hbn : Below w3.heap.size w3 w4 := hbn.grown hp.only hbn.size (fun q hq => by injection hq with hq; omega)
      have HD4 : Hid (Bk w4 q 22 (dl zeroD)) := by show Bk _ _ _ _; have := hp.bk; simpa using this
      have HK4 := Lib.hid (HK3.out.later hbn); have HX4 := Lib.hid (HX3.out.later hbn); have HY4 := Lib.hid (HY3.out.later hbn)
      have HB4 := Lib.hid (below_then HB3.out hbn)
      have HV4 : Hid (∀ e, RvAt w4 B (.agg #[.slice A2 n2 c2, .int .i64 (k2 : Int), .int .i64 e]) ⟨p.1.rest, e⟩) := fun e => (HV3.out e).below (hbn.mono (by omega))
      have HN3 := Lib.hid hbn
      have hz4 : w3.heap.size < w4.heap.size := by have := hp.bk.lt; omega
      clear hp kt hbn
      go_wp2_with fail
      go_loopw [6] (fun is wr => ∃ i : Nat, i ≤ 8 ∧ is = .int .i64 i ∧ Hid (Bk wr q 22 (dl (p.2.take i ++ zeroD.drop i))) ∧ Hid (w4.grownBy wr (some q))) (fun is _ => 8 - (intOf is).toNat)
      case atStart => exact ⟨0, by omega, rfl, HD4.out, only_refl' _ _⟩
      case round =>
        obtain ⟨i, hi, rfl, HDI, HGI⟩ := hrel
        obtain ⟨w5, hw5⟩ : ∃ w5, wr = w5 := ⟨_, rfl⟩
        subst hw5
        have hgr := HGI.out
        have HK5 := Lib.hid (HK4.out.grown hgr (by intro h; injection h with h; omega))
        have hg5 : wr.cell? ⟨w.heap.size, 2, none⟩ = some (.int .i64 p.1.err) := (cells3 HK5.out).2.2
        by_cases hlt : i < 8
        · obtain ⟨z, hz⟩ : ∃ z, p.2[i]? = some z := ⟨p.2[i]'(by rw [HL8.out]; exact hlt), List.getElem?_eq_getElem _⟩
          have hcb : w3.cell? ⟨gb, 0 + i, none⟩ = some (.int .u8 z) := HR8.out i _ (by rw [dl, List.getElem?_map, hz]; rfl)
          have hcb5 : wr.cell? ⟨gb, i, none⟩ = some (.int .u8 z) := by
            rw [Nat.zero_add] at hcb
            rw [World.cell?_of_block (hgr.block gb (by omega) (by intro h; injection h with h; omega)), HN3.out.cell hgb]
            exact hcb
          have hf5 : wr.frozen? ⟨q, i, none⟩ = false := HDI.out.frozen i
          have hql : q < wr.heap.size := HDI.out.lt
          have hi1 : (i : Int) < 8 := by omega
          have hi0 : (0 : Int) ≤ i := by omega
          have HZ := Lib.hid hz
          have hdl : (p.2.take i ++ zeroD.drop i).length = 8 := by rw [List.length_append, List.length_take, List.length_drop, HL8.out]; have : zeroD.length = 8 := rfl; omega
          obtain ⟨y, hy⟩ : ∃ y, wr.cell? ⟨q, i, none⟩ = some y := ⟨_, by rw [HDI.out.cell]; exact List.getElem?_eq_getElem (by rw [dl_len, hdl]; exact hlt)⟩
          have HDN : Hid (Bk (wr.setCell ⟨q, i, none⟩ (.int .u8 z)) q 22 (dl (p.2.take (i + 1) ++ zeroD.drop (i + 1)))) := by
            show Bk _ _ _ _
            have := HDI.out.set_ i (.int .u8 z)
            rw [dl, ← List.map_set, fill_step HL8.out hlt hz] at this
            exact this
          clear hcb hz hgr hdl
          go_wp2_with fail
          go_roundw
          case rel => exact ⟨i + 1, by omega, by go_num, HDN.out, only_set HGI.out i _⟩
          case measure => simp [intOf]; omega
        · have hi8 : i = 8 := by omega
          subst hi8
          have HX5 := Lib.hid (HX4.out.grown hgr (by intro h; injection h with h; omega))
          have HY5 := Lib.hid (HY4.out.grown hgr (by intro h; injection h with h; omega))
          have HB5 := Lib.hid (HB4.out.grown hgr HB4.out.size (fun q hq => by injection hq with hq; omega))
          have HV5 : Hid (∀ e, RvAt wr B (.agg #[.slice A2 n2 c2, .int .i64 (k2 : Int), .int .i64 e]) ⟨p.1.rest, e⟩) := fun e => (HV4.out e).below ((Below.refl B w4).grown hgr (by omega) (fun q hq => by injection hq with hq; omega))
          have HD5 : Hid (Bk wr q 22 (dl p.2)) := by show Bk _ _ _ _; have := HDI.out; rw [List.take_of_length_le (by rw [HL8.out]; omega), List.drop_of_length_le (by show 8 ≤ 8; omega), List.append_nil] at this; exact this
          have HDL := HL8
          clear hgr hlt hi
          obtain ⟨w5, hw5⟩ : ∃ w5, wr = w5 := ⟨_, rfl⟩
          subst hw5
          go_wp2_with fail
          have HEI : Hid ((Try.prog.info? 22).map (·.size) = some (dl p.2).length) := by show _ = _; rw [dl_len, HDL.out]; kernel_rfl
          refine wp_region_held_drew (S := fun w' => Bk w' w.heap.size 136 [.slice A2 n2 c2, .int .i64 (k2 : Int), .int .i64 p.1.err] ∧ Bk w' q 22 (dl p.2)) (by kernel_rfl) ⟨Bk.drew HK5.out, Bk.drew HD5.out⟩ (fun hHeld => ?_)
          refine wpAnyH_take (i := 0) (v := .agg (List.toArray ([.slice A2 n2 c2, .int .i64 (k2 : Int), .int .i64 p.1.err]))) rfl (by kernel_rfl) (by kernel_rfl) (by kernel_rfl) (fun _ _ _ h => h) (yieldsIf_load_mid (by rfl) _ _ rfl _ _ rfl ([.slice A2 n2 c2, .int .i64 (k2 : Int), .int .i64 p.1.err]) _ (fun w hSw => (Bk.range (pre := []) (post := []) (by simpa using hSw.1) rfl)) Try.underlying136 rfl ((by kernel_rfl))) (by assumption) ?_
          try simp only [Act.put, List.setIfInBounds_toArray, List.set_cons_zero, List.set_cons_succ, List.getElem_toArray, List.getElem_cons_zero]
          refine wpAnyH_take (i := 1) (v := .agg (List.toArray (dl p.2))) rfl (by kernel_rfl) (by kernel_rfl) (by kernel_rfl) (fun _ _ _ h => h) (yieldsIf_load_mid (by rfl) _ _ rfl _ _ rfl (dl p.2) _ (fun w hSw => (Bk.range (pre := []) (post := []) (by simpa using hSw.2) rfl)) Try.underlying22 rfl (HEI.out)) (by assumption) ?_
          try simp only [Act.put, List.setIfInBounds_toArray, List.set_cons_zero, List.set_cons_succ, List.getElem_toArray, List.getElem_cons_zero, List.getElem_cons_succ]
          refine wpAnyH_ready (rs := [2]) (by kernel_rfl) (by simp) ?_
          refine AllReadyH.cons rfl (fun K hK => ?_) AllReadyH.nil
          rw [if_pos (by rfl)]
          refine wp_store_part _ _ _ rfl (w.heap.size + 1) 0 _ ([.slice A2 n2 c2, .int .i64 (k2 : Int), .int .i64 p.1.err]) rfl rfl rfl _ ([]) ([.slice none 0 0, .int .i64 0, .int .i64 0]) ([]) HX5.out.drew rfl rfl (by kernel_rfl) three_one ?_
          intro wa hpa
          refine hK.out _ _ ⟨HK5.out.drew.grown hpa.only (by intro h; injection h with h; omega), HD5.out.drew.grown hpa.only (by intro h; injection h with h; omega)⟩ (fun hHeld => ?_)
          clear hK K
          try simp only [Act.put, List.getElem_toArray, List.getElem_cons_zero, List.getElem_cons_succ]
          refine wpAnyH_ready (rs := [3]) (by kernel_rfl) (by simp) ?_
          refine AllReadyH.cons rfl (fun K hK => ?_) AllReadyH.nil
          rw [if_pos (by rfl)]
          refine wp_store_part _ _ _ rfl (w.heap.size + 2) 0 _ (dl p.2) rfl rfl rfl _ ([]) (dl zeroD) ([]) (HY5.out.drew.grown hpa.only (by intro h; injection h with h; omega)) rfl ((dl_len zeroD).trans ((dl_len _).trans HDL.out).symm) HEI.out (dl_one p.2) ?_
          intro wb hpb
          refine hK.out _ _ ⟨(HK5.out.drew.grown hpa.only (by intro h; injection h with h; omega)).grown hpb.only (by intro h; injection h with h; omega), (HD5.out.drew.grown hpa.only (by intro h; injection h with h; omega)).grown hpb.only (by intro h; injection h with h; omega)⟩ (fun hHeld => ?_)
          clear hK K
          try simp only [Act.put, List.getElem_toArray, List.getElem_cons_zero, List.getElem_cons_succ]
          refine wpAnyH_done (by kernel_rfl) ?_ _
          clear hHeld
          have r2 : Bk wb (w.heap.size + 1) 136 [.slice A2 n2 c2, .int .i64 (k2 : Int), .int .i64 p.1.err] := by have := hpa.bk.grown hpb.only (by intro h; injection h with h; omega); simpa using this
          have r3 : Bk wb (w.heap.size + 2) 22 (dl p.2) := by have := hpb.bk; simpa using this
          have hza : wr.heap.size ≤ wa.heap.size := hpa.only.size
          have hzw := HB5.out.size
          have HBE := Lib.hid ((HB5.out.drew.grown hpa.only hzw (fun q hq => by injection hq with hq; omega)).grown hpb.only (by omega) (fun q hq => by injection hq with hq; omega))
          have HVE := Lib.hid ((HV5.out p.1.err).below (((Below.refl B wr).drew.grown hpa.only (by show B ≤ wr.heap.size; omega) (fun q hq => by injection hq with hq; omega)).grown hpb.only (by omega) (fun q hq => by injection hq with hq; omega)))
          have HR2 := Lib.hid r2; have HR3 := Lib.hid r3
          clear r2 r3 hpa hpb
          go_wp2_with fail
          refine bodyPost_ret (eight_ret HDL.out HR2.out HR3.out _ rfl rfl) rfl ?_
          rw [HO.out]
          exact ⟨_, rfl, HVE.out, HBE.out⟩
    · have HO : Hid (o = (⟨p.1.rest, 3⟩, zeroD)) := by show _ = _; rw [← HO1.out, eightR, HP.out, if_pos he, if_neg hl]
      have hl1 : ((p.2.length : Int) != 8) = true := by simp; omega
      have hg0 := (cells3 HK3.out).1
      have hg1 := (cells3 HK3.out).2.1
      have HDL : Hid (zeroD.length = 8) := rfl
      clear hl he
      go_wp2_with fail
      refine (rFail_any _ A2 n2 c2 k2 p.1.err 3).mono ?_
      rintro e w6 ⟨rfl, hbn⟩
      have HB6 := Lib.hid (below_then HB3.out hbn)
      have HK6 := Lib.hid (HK3.out.later hbn); have HX6 := Lib.hid (HX3.out.later hbn); have HY6 := Lib.hid (HY3.out.later hbn)
      have HV6 : Hid (∀ e, RvAt w6 B (.agg #[.slice A2 n2 c2, .int .i64 (k2 : Int), .int .i64 e]) ⟨p.1.rest, e⟩) := fun e => (HV3.out e).below (hbn.mono (by omega))
      have hz6 : w3.heap.size ≤ w6.heap.size := hbn.size
      clear hbn hg0 hg1 hg2
      go_wp2_with (with_reducible refine stop_store 136 _ _ rfl ?_)
      refine StopD.go ?_
      refine wpList_store_part rfl 136 _ _ rfl w.heap.size 0 (.agg #[.slice A2 n2 c2, .int .i64 (k2 : Int), .int .i64 3]) [.slice A2 n2 c2, .int .i64 (k2 : Int), .int .i64 3] rfl rfl rfl 136 [] [.slice A2 n2 c2, .int .i64 (k2 : Int), .int .i64 p.1.err] [] HK6.out rfl rfl (by kernel_rfl) three_one ?_
      intro w7 hp7
      have HK7 : Hid (Bk w7 w.heap.size 136 [.slice A2 n2 c2, .int .i64 (k2 : Int), .int .i64 3]) := by show Bk _ _ _ _; have := hp7.bk; simpa using this
      have hgr := hp7.only
      have HB7 := Lib.hid (HB6.out.grown hgr HB6.out.size (fun q hq => by injection hq with hq; omega))
      have hzz := HB6.out.size
      have HV7 : Hid (∀ e, RvAt w7 B (.agg #[.slice A2 n2 c2, .int .i64 (k2 : Int), .int .i64 e]) ⟨p.1.rest, e⟩) := fun e => (HV6.out e).below ((Below.refl B w6).grown hgr (by omega) (fun q hq => by injection hq with hq; omega))
      have HX7 := Lib.hid (HX6.out.grown hgr (by intro h; injection h with h; omega))
      have HY7 := Lib.hid (HY6.out.grown hgr (by intro h; injection h with h; omega))
      have hz7 : w6.heap.size ≤ w7.heap.size := hgr.size
      clear hgr
      clear hp7
      go_wp2_with (with_reducible refine stop_store 22 _ _ rfl ?_)
      refine StopD.go ?_
      obtain ⟨q, hq⟩ : ∃ q, w7.heap.size = q := ⟨_, rfl⟩
      have hbn : Below w7.heap.size w7 (w7.alloc (.cells #[.int .u8 0, .int .u8 0, .int .u8 0, .int .u8 0, .int .u8 0, .int .u8 0, .int .u8 0, .int .u8 0] 22)) := below_new w7 _
      have kt : Bk (w7.alloc (.cells #[.int .u8 0, .int .u8 0, .int .u8 0, .int .u8 0, .int .u8 0, .int .u8 0, .int .u8 0, .int .u8 0] 22)) q 22 ([] ++ (dl zeroD ++ [])) := by rw [← hq]; exact Bk.new' w7 _ #[.int .u8 0, .int .u8 0, .int .u8 0, .int .u8 0, .int .u8 0, .int .u8 0, .int .u8 0, .int .u8 0] rfl
      rw [hq]
      refine wpList_store_part rfl 22 _ _ rfl q 0 (.agg (dl zeroD).toArray) (dl zeroD) rfl rfl rfl 22 [] (dl zeroD) [] kt rfl rfl (by kernel_rfl) (dl_one zeroD) ?_
      intro w8 hp
      have hbn : Below w7.heap.size w7 w8 := hbn.grown hp.only hbn.size (fun q hq => by injection hq with hq; omega)
      have HD8 : Hid (Bk w8 q 22 (dl zeroD)) := by show Bk _ _ _ _; have := hp.bk; simpa using this
      have HK8 := Lib.hid (HK7.out.later hbn); have HX8 := Lib.hid (HX7.out.later hbn); have HY8 := Lib.hid (HY7.out.later hbn)
      have HB8 := Lib.hid (below_then HB7.out hbn)
      have HV8 : Hid (∀ e, RvAt w8 B (.agg #[.slice A2 n2 c2, .int .i64 (k2 : Int), .int .i64 e]) ⟨p.1.rest, e⟩) := fun e => (HV7.out e).below (hbn.mono (by omega))
      have HN7 := Lib.hid hbn
      have hz8 : w7.heap.size < w8.heap.size := by have := hp.bk.lt; omega
      clear hp kt hbn
      go_wp2_with fail
      go_loopw [6] (fun is wr => is = .int .i64 0 ∧ wr = w8) (fun _ _ => 0)
      case atStart => exact ⟨rfl, rfl⟩
      case round =>
        obtain ⟨rfl, rfl⟩ := hrel
        have hg9 : wr.cell? ⟨w.heap.size, 2, none⟩ = some (.int .i64 3) := (cells3 HK8.out).2.2
        go_wp2_with fail
        have HEI : Hid ((Try.prog.info? 22).map (·.size) = some (dl zeroD).length) := by show _ = _; rw [dl_len, HDL.out]; kernel_rfl
        refine wp_region_held_drew (S := fun w' => Bk w' w.heap.size 136 [.slice A2 n2 c2, .int .i64 (k2 : Int), .int .i64 3] ∧ Bk w' q 22 (dl zeroD)) (by kernel_rfl) ⟨Bk.drew HK8.out, Bk.drew HD8.out⟩ (fun hHeld => ?_)
        refine wpAnyH_take (i := 0) (v := .agg (List.toArray ([.slice A2 n2 c2, .int .i64 (k2 : Int), .int .i64 3]))) rfl (by kernel_rfl) (by kernel_rfl) (by kernel_rfl) (fun _ _ _ h => h) (yieldsIf_load_mid (by rfl) _ _ rfl _ _ rfl ([.slice A2 n2 c2, .int .i64 (k2 : Int), .int .i64 3]) _ (fun w hSw => (Bk.range (pre := []) (post := []) (by simpa using hSw.1) rfl)) Try.underlying136 rfl ((by kernel_rfl))) (by assumption) ?_
        try simp only [Act.put, List.setIfInBounds_toArray, List.set_cons_zero, List.set_cons_succ, List.getElem_toArray, List.getElem_cons_zero]
        refine wpAnyH_take (i := 1) (v := .agg (List.toArray (dl zeroD))) rfl (by kernel_rfl) (by kernel_rfl) (by kernel_rfl) (fun _ _ _ h => h) (yieldsIf_load_mid (by rfl) _ _ rfl _ _ rfl (dl zeroD) _ (fun w hSw => (Bk.range (pre := []) (post := []) (by simpa using hSw.2) rfl)) Try.underlying22 rfl (HEI.out)) (by assumption) ?_
        try simp only [Act.put, List.setIfInBounds_toArray, List.set_cons_zero, List.set_cons_succ, List.getElem_toArray, List.getElem_cons_zero, List.getElem_cons_succ]
        refine wpAnyH_ready (rs := [2]) (by kernel_rfl) (by simp) ?_
        refine AllReadyH.cons rfl (fun K hK => ?_) AllReadyH.nil
        rw [if_pos (by rfl)]
        refine wp_store_part _ _ _ rfl (w.heap.size + 1) 0 _ ([.slice A2 n2 c2, .int .i64 (k2 : Int), .int .i64 3]) rfl rfl rfl _ ([]) ([.slice none 0 0, .int .i64 0, .int .i64 0]) ([]) HX8.out.drew rfl rfl (by kernel_rfl) three_one ?_
        intro wa hpa
        refine hK.out _ _ ⟨HK8.out.drew.grown hpa.only (by intro h; injection h with h; omega), HD8.out.drew.grown hpa.only (by intro h; injection h with h; omega)⟩ (fun hHeld => ?_)
        clear hK K
        try simp only [Act.put, List.getElem_toArray, List.getElem_cons_zero, List.getElem_cons_succ]
        refine wpAnyH_ready (rs := [3]) (by kernel_rfl) (by simp) ?_
        refine AllReadyH.cons rfl (fun K hK => ?_) AllReadyH.nil
        rw [if_pos (by rfl)]
        refine wp_store_part _ _ _ rfl (w.heap.size + 2) 0 _ (dl zeroD) rfl rfl rfl _ ([]) (dl zeroD) ([]) (HY8.out.drew.grown hpa.only (by intro h; injection h with h; omega)) rfl ((dl_len zeroD).trans ((dl_len _).trans HDL.out).symm) HEI.out (dl_one zeroD) ?_
        intro wb hpb
        refine hK.out _ _ ⟨(HK8.out.drew.grown hpa.only (by intro h; injection h with h; omega)).grown hpb.only (by intro h; injection h with h; omega), (HD8.out.drew.grown hpa.only (by intro h; injection h with h; omega)).grown hpb.only (by intro h; injection h with h; omega)⟩ (fun hHeld => ?_)
        clear hK K
        try simp only [Act.put, List.getElem_toArray, List.getElem_cons_zero, List.getElem_cons_succ]
        refine wpAnyH_done (by kernel_rfl) ?_ _
        clear hHeld
        have r2 : Bk wb (w.heap.size + 1) 136 [.slice A2 n2 c2, .int .i64 (k2 : Int), .int .i64 3] := by have := hpa.bk.grown hpb.only (by intro h; injection h with h; omega); simpa using this
        have r3 : Bk wb (w.heap.size + 2) 22 (dl zeroD) := by have := hpb.bk; simpa using this
        have hza : wr.heap.size ≤ wa.heap.size := hpa.only.size
        have hzw := HB8.out.size
        have HBE := Lib.hid ((HB8.out.drew.grown hpa.only hzw (fun q hq => by injection hq with hq; omega)).grown hpb.only (by omega) (fun q hq => by injection hq with hq; omega))
        have HVE := Lib.hid ((HV8.out 3).below (((Below.refl B wr).drew.grown hpa.only (by show B ≤ wr.heap.size; omega) (fun q hq => by injection hq with hq; omega)).grown hpb.only (by omega) (fun q hq => by injection hq with hq; omega)))
        have HR2 := Lib.hid r2; have HR3 := Lib.hid r3
        clear r2 r3 hpa hpb
        go_wp2_with fail
        refine bodyPost_ret (eight_ret HDL.out HR2.out HR3.out _ rfl rfl) rfl ?_
        rw [HO.out]
        exact ⟨_, rfl, HVE.out, HBE.out⟩
  · have he1 : (p.1.err == 0) = false := by simp [he]
    have HO : Hid (o = (p.1, zeroD)) := by show _ = _; rw [← HO1.out, eightR, HP.out, if_neg he]
    have HDL : Hid (zeroD.length = 8) := rfl
    clear he
    go_wp2_with (with_reducible refine stop_store 22 _ _ rfl ?_)
    refine StopD.go ?_
    obtain ⟨q, hq⟩ : ∃ q, w3.heap.size = q := ⟨_, rfl⟩
    have hbn : Below w3.heap.size w3 (w3.alloc (.cells #[.int .u8 0, .int .u8 0, .int .u8 0, .int .u8 0, .int .u8 0, .int .u8 0, .int .u8 0, .int .u8 0] 22)) := below_new w3 _
    have kt : Bk (w3.alloc (.cells #[.int .u8 0, .int .u8 0, .int .u8 0, .int .u8 0, .int .u8 0, .int .u8 0, .int .u8 0, .int .u8 0] 22)) q 22 ([] ++ (dl zeroD ++ [])) := by rw [← hq]; exact Bk.new' w3 _ #[.int .u8 0, .int .u8 0, .int .u8 0, .int .u8 0, .int .u8 0, .int .u8 0, .int .u8 0, .int .u8 0] rfl
    rw [hq]
    refine wpList_store_part rfl 22 _ _ rfl q 0 (.agg (dl zeroD).toArray) (dl zeroD) rfl rfl rfl 22 [] (dl zeroD) [] kt rfl rfl (by kernel_rfl) (dl_one zeroD) ?_
    intro w4 hp
    have hbn : Below w3.heap.size w3 w4 := hbn.grown hp.only hbn.size (fun q hq => by injection hq with hq; omega)
    have HD4 : Hid (Bk w4 q 22 (dl zeroD)) := by show Bk _ _ _ _; have := hp.bk; simpa using this
    have HK4 := Lib.hid (HK3.out.later hbn); have HX4 := Lib.hid (HX3.out.later hbn); have HY4 := Lib.hid (HY3.out.later hbn)
    have HB4 := Lib.hid (below_then HB3.out hbn)
    have HV4 : Hid (∀ e, RvAt w4 B (.agg #[.slice A2 n2 c2, .int .i64 (k2 : Int), .int .i64 e]) ⟨p.1.rest, e⟩) := fun e => (HV3.out e).below (hbn.mono (by omega))
    have HN3 := Lib.hid hbn
    have hz4 : w3.heap.size < w4.heap.size := by have := hp.bk.lt; omega
    clear hp kt hbn
    go_wp2_with fail
    go_loopw [6] (fun is wr => is = .int .i64 0 ∧ wr = w4) (fun _ _ => 0)
    case atStart => exact ⟨rfl, rfl⟩
    case round =>
      obtain ⟨rfl, rfl⟩ := hrel
      have hg9 : wr.cell? ⟨w.heap.size, 2, none⟩ = some (.int .i64 p.1.err) := (cells3 HK4.out).2.2
      go_wp2_with fail
      have HEI : Hid ((Try.prog.info? 22).map (·.size) = some (dl zeroD).length) := by show _ = _; rw [dl_len, HDL.out]; kernel_rfl
      refine wp_region_held_drew (S := fun w' => Bk w' w.heap.size 136 [.slice A2 n2 c2, .int .i64 (k2 : Int), .int .i64 p.1.err] ∧ Bk w' q 22 (dl zeroD)) (by kernel_rfl) ⟨Bk.drew HK4.out, Bk.drew HD4.out⟩ (fun hHeld => ?_)
      refine wpAnyH_take (i := 0) (v := .agg (List.toArray ([.slice A2 n2 c2, .int .i64 (k2 : Int), .int .i64 p.1.err]))) rfl (by kernel_rfl) (by kernel_rfl) (by kernel_rfl) (fun _ _ _ h => h) (yieldsIf_load_mid (by rfl) _ _ rfl _ _ rfl ([.slice A2 n2 c2, .int .i64 (k2 : Int), .int .i64 p.1.err]) _ (fun w hSw => (Bk.range (pre := []) (post := []) (by simpa using hSw.1) rfl)) Try.underlying136 rfl ((by kernel_rfl))) (by assumption) ?_
      try simp only [Act.put, List.setIfInBounds_toArray, List.set_cons_zero, List.set_cons_succ, List.getElem_toArray, List.getElem_cons_zero]
      refine wpAnyH_take (i := 1) (v := .agg (List.toArray (dl zeroD))) rfl (by kernel_rfl) (by kernel_rfl) (by kernel_rfl) (fun _ _ _ h => h) (yieldsIf_load_mid (by rfl) _ _ rfl _ _ rfl (dl zeroD) _ (fun w hSw => (Bk.range (pre := []) (post := []) (by simpa using hSw.2) rfl)) Try.underlying22 rfl (HEI.out)) (by assumption) ?_
      try simp only [Act.put, List.setIfInBounds_toArray, List.set_cons_zero, List.set_cons_succ, List.getElem_toArray, List.getElem_cons_zero, List.getElem_cons_succ]
      refine wpAnyH_ready (rs := [2]) (by kernel_rfl) (by simp) ?_
      refine AllReadyH.cons rfl (fun K hK => ?_) AllReadyH.nil
      rw [if_pos (by rfl)]
      refine wp_store_part _ _ _ rfl (w.heap.size + 1) 0 _ ([.slice A2 n2 c2, .int .i64 (k2 : Int), .int .i64 p.1.err]) rfl rfl rfl _ ([]) ([.slice none 0 0, .int .i64 0, .int .i64 0]) ([]) HX4.out.drew rfl rfl (by kernel_rfl) three_one ?_
      intro wa hpa
      refine hK.out _ _ ⟨HK4.out.drew.grown hpa.only (by intro h; injection h with h; omega), HD4.out.drew.grown hpa.only (by intro h; injection h with h; omega)⟩ (fun hHeld => ?_)
      clear hK K
      try simp only [Act.put, List.getElem_toArray, List.getElem_cons_zero, List.getElem_cons_succ]
      refine wpAnyH_ready (rs := [3]) (by kernel_rfl) (by simp) ?_
      refine AllReadyH.cons rfl (fun K hK => ?_) AllReadyH.nil
      rw [if_pos (by rfl)]
      refine wp_store_part _ _ _ rfl (w.heap.size + 2) 0 _ (dl zeroD) rfl rfl rfl _ ([]) (dl zeroD) ([]) (HY4.out.drew.grown hpa.only (by intro h; injection h with h; omega)) rfl ((dl_len zeroD).trans ((dl_len _).trans HDL.out).symm) HEI.out (dl_one zeroD) ?_
      intro wb hpb
      refine hK.out _ _ ⟨(HK4.out.drew.grown hpa.only (by intro h; injection h with h; omega)).grown hpb.only (by intro h; injection h with h; omega), (HD4.out.drew.grown hpa.only (by intro h; injection h with h; omega)).grown hpb.only (by intro h; injection h with h; omega)⟩ (fun hHeld => ?_)
      clear hK K
      try simp only [Act.put, List.getElem_toArray, List.getElem_cons_zero, List.getElem_cons_succ]
      refine wpAnyH_done (by kernel_rfl) ?_ _
      clear hHeld
      have r2 : Bk wb (w.heap.size + 1) 136 [.slice A2 n2 c2, .int .i64 (k2 : Int), .int .i64 p.1.err] := by have := hpa.bk.grown hpb.only (by intro h; injection h with h; omega); simpa using this
      have r3 : Bk wb (w.heap.size + 2) 22 (dl zeroD) := by have := hpb.bk; simpa using this
      have hza : wr.heap.size ≤ wa.heap.size := hpa.only.size
      have hzw := HB4.out.size
      have HBE := Lib.hid ((HB4.out.drew.grown hpa.only hzw (fun q hq => by injection hq with hq; omega)).grown hpb.only (by omega) (fun q hq => by injection hq with hq; omega))
      have HVE := Lib.hid ((HV4.out p.1.err).below (((Below.refl B wr).drew.grown hpa.only (by show B ≤ wr.heap.size; omega) (fun q hq => by injection hq with hq; omega)).grown hpb.only (by omega) (fun q hq => by injection hq with hq; omega)))
      have HR2 := Lib.hid r2; have HR3 := Lib.hid r3
      clear r2 r3 hpa hpb
      go_wp2_with fail
      refine bodyPost_ret (eight_ret HDL.out HR2.out HR3.out _ rfl rfl) rfl ?_
      rw [HO.out]
      exact ⟨_, rfl, HVE.out, HBE.out⟩
end Go.Proofs.Ythibihjblodfmaa
