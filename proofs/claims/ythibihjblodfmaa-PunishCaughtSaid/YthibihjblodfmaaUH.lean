/- PunishFinds: the walk. -/
import Derived.Test.YthibihjblodfmaaUG
import Derived.Test.YthibihjblodfmaaP4
namespace Go.Proofs.Ythibihjblodfmaa
open Go.RowKit Go.Maps

theorem Des.later {w w' : World} {A : Option Addr} {N : Nat} {xs : List (List Value × DeT)} (h : Des w A N xs) (hb : Below w.heap.size w w') : Des w' A N xs :=
  ⟨h.sl.later hb, fun x hx => by
    obtain ⟨A', N', C', e1, e2, e3⟩ := h.de x hx
    exact ⟨A', N', C', e1, e2, fun hl => ⟨(e3 hl).sl.later hb, (e3 hl).bo, (e3 hl).bl, (e3 hl).n0, (e3 hl).n1, (e3 hl).p0, (e3 hl).p1⟩⟩⟩
theorem FindR_hit {N : Nat} {tw : Nat → Nat → Int} {fi fj : Nat} {is : Bool} (h : FindR N tw fi fj is) {i k : Nat} (hik : i < k) (hk : k < N) (h0 : tw i k = 0) (hJ : ∀ k', k' < k → ∀ m, m < k' → tw m k' ≠ 0) (hI : ∀ m, m < i → tw m k ≠ 0) : is = true ∧ fi = i ∧ fj = k := by
  rcases h with ⟨e, a, b, c, d, f⟩ | ⟨e, a, b, c⟩
  · rcases Nat.lt_trichotomy fj k with h | h | h
    · exact absurd c (hJ fj h fi a)
    · subst h
      rcases Nat.lt_trichotomy fi i with h | h | h
      · exact absurd c (hI fi h)
      · exact ⟨e, h, rfl⟩
      · exact absurd h0 (f i h)
    · exact absurd h0 (d k h i hik)
  · exact absurd h0 (c k hk i hik)
theorem FindR_none {N : Nat} {tw : Nat → Nat → Int} {fi fj : Nat} {is : Bool} (h : FindR N tw fi fj is) (hJ : ∀ k', k' < N → ∀ m, m < k' → tw m k' ≠ 0) : is = false ∧ fi = 0 ∧ fj = 0 := by
  rcases h with ⟨e, a, b, c, d, f⟩ | ⟨e, a, b, c⟩
  · exact absurd c (hJ fj b fi a)
  · exact ⟨e, a, b⟩
theorem bs_th {w1 w' : World} {cs : List Value} {T : Tg} (h : ThK w1 w' cs T) (w : World) : (Instr.buildSlice 68 1 #[(0, .agg cs.toArray)]).run Try.prog w = .ok (.slice (some ⟨w.heap.size, 0, none⟩) 1 1) (w.alloc (.cells cs.toArray 35)) := by
  obtain ⟨⟨A1, A2, A3, N1, N2, N3, C1, C2, C3, rfl, _⟩, _, _, _, a, b, c, _⟩ := h
  obtain ⟨t0, t1, t2, t3, t4, t5, t6, t7, ht⟩ := list8 T.t a.len
  obtain ⟨u0, u1, u2, u3, u4, u5, u6, u7, hu⟩ := list8 T.u b.len
  obtain ⟨v0, v1, v2, v3, v4, v5, v6, v7, hv⟩ := list8 T.v c.len
  rw [ht, hu, hv]
  kernel_rfl
theorem Try.infoTh : (Try.prog.info? 35).map (fun i => (i.zero.map fun z => z.cells.size, i.size, i.bytes)) = some (some 30, 30, 120) := by kernel_rfl
theorem th_parts : ∃ i z, Try.prog.info? 35 = some i ∧ i.zero = some z ∧ i.size = 30 ∧ i.bytes = 120 ∧ z.cells.size = 30 := by
  have := Try.infoTh
  cases hq : Try.prog.info? 35 with
  | none => rw [hq] at this; cases this
  | some i =>
    rw [hq] at this
    simp only [Option.map_some, Option.some.injEq, Prod.mk.injEq] at this
    obtain ⟨h1, h2, h3⟩ := this
    cases hz : i.zero with
    | none => rw [hz] at h1; cases h1
    | some z =>
      rw [hz] at h1
      simp only [Option.map_some, Option.some.injEq] at h1
      exact ⟨i, z, rfl, hz, h2, h3, h1⟩
set_option maxRecDepth 20000 in
set_option maxHeartbeats 8000000 in
theorem pfinds_any (w : World) (A : Option Addr) (N C : Nat) (xs : List (List Value × DeT)) (h : Des w A N xs) (hN : N ≤ 9223372036854775807) (seat : Int) (second : Bool) :
    Calls Try.prog 5 #[.slice A N C, .int .i64 seat, .bool second] w fun e w' => e = .returned (.bool true) ∧ Below w.heap.size w w' := by
  have HD := Lib.hid h
  clear h
  go_enter Try.func5, Try.ntmps5
  go_upto_region 1 with fail
  go_wp2_with fail
  refine (pknown_any w).mono ?_
  rintro e w2 ⟨rfl, hbn⟩
  have HBB2 := Lib.hid hbn
  clear hbn
  go_wp2_with fail
  refine (fewD_any w2 A N C xs (HD.out.later HBB2.out) hN).mono ?_
  rintro e w3 ⟨rfl, hbn⟩
  have HBB3 := Lib.hid (below_then HBB2.out hbn)
  clear hbn
  obtain ⟨b0, hb0⟩ : ∃ b, fewB xs = b := ⟨_, rfl⟩
  rw [hb0]
  have HFE := Lib.hid hb0
  clear hb0
  cases b0
  · go_wp2_with fail
    refine (pknown_any w3).mono ?_
    rintro e w4 ⟨rfl, hbn⟩
    have HBB4 := Lib.hid (below_then HBB3.out hbn)
    clear hbn
    go_wp2_with fail
    go_ret
    exact ⟨rfl, HBB4.out⟩
  · have HFL : Hid ((∀ x ∈ xs, x.2.bs.length ≤ 60) ∧ xs.length ≤ 20) := by
      have h1 := HFE.out
      unfold fewB at h1
      rw [Bool.and_eq_true] at h1
      exact ⟨of_decide_eq_true h1.1, of_decide_eq_true h1.2⟩
    go_wp2_with fail
    refine (newBook_any w3).mono ?_
    rintro e w4 ⟨⟨g, rfl, hbk⟩, hbn⟩
    obtain ⟨lo, hlo⟩ : ∃ lo, w3.heap.size = lo := ⟨_, rfl⟩
    rw [hlo] at hbk
    have HFI4 : Hid (FI w w4 lo g (.slice none 0 0) [] []) := ⟨World.ownsRow_nil _ _ _ _, fun y hy => by simp at hy, hbk, below_then HBB3.out hbn, hlo ▸ hbn.size, hlo ▸ HBB3.out.size⟩
    clear hbk hbn hlo
    go_wp2_with fail
    have HLN := Lib.hid HD.out.length
    go_loopw [8, 10, 31] (fun v8 _ kv wr => ∃ k : Nat, k ≤ N ∧ kv = .int .i64 k ∧ ∃ (ys : List (List Value × Tg)) (es : List Ent), Hid (FI w wr lo g v8 ys es) ∧ Hid (ys.length = k ∧ (ys.map (·.2), es) = signS ((xs.take k).map (·.2)))) (fun _ _ kv _ => N - (intOf kv).toNat)
    case atStart => exact ⟨0, Nat.zero_le _, rfl, [], [], HFI4, rfl, by simp [signS]⟩
    case round =>
      clear HFI4
      obtain ⟨k, hk, rfl, ys, es, HFI, HSS⟩ := hrel
      by_cases hlt : k < N
      · have hki : (k : Int) < N := by omega
        have hk0 : (0 : Int) ≤ k := by omega
        obtain ⟨x, hx⟩ : ∃ x, xs[k]? = some x := ⟨xs[k]'(by rw [HLN.out]; omega), List.getElem?_eq_getElem _⟩
        obtain ⟨A', N', C', hx1, hx2, hx3⟩ := HD.out.de x (List.mem_of_getElem? hx)
        have HDO := Lib.hid (hx3 (HFL.out.1 x (List.mem_of_getElem? hx)))
        obtain ⟨b, o, rfl, hr⟩ := HD.out.at_ HFI.out.hb hx
        rw [hx1] at hr
        have HR := Lib.hid hr; have HXK := Lib.hid hx
        have HEL : Hid (es.length < 65536) := by
          have h1 := congrArg Prod.snd HSS.out.2
          have h2 := (signS_len _ ((xs.take k).map (·.2)) rfl).2
          have h3 := HFL.out.2
          show es.length < 65536
          rw [show es = _ from h1]
          rw [List.length_map, List.length_take] at h2
          omega
        clear hr hx hx1 hx2 hx3
        go_wp2_with (first
          | (with_reducible refine wpList_load_mid rfl 70 _ rfl b (o + k * 7) rfl (deC x.2 (.slice A' N' C')) _ HR.out Try.underlying70 rfl (de_size' x.2 A' N' C') ?_)
          | (with_reducible refine stop_store 70 _ _ rfl ?_))
        refine StopD.go ?_
        obtain ⟨q, hq⟩ : ∃ q, wr.heap.size = q := ⟨_, rfl⟩
        obtain ⟨w5, hw5⟩ : ∃ w5, wr.alloc (.cells #[.int .i64 0, .int .i64 0, .int .i64 0, .slice none 0 0, .bool false, .int .u8 0, .bool false] 70) = w5 := ⟨_, rfl⟩
        have hbn : Below wr.heap.size wr w5 := hw5 ▸ below_new wr _
        have kb : Bk w5 q 70 ([] ++ ([.int .i64 0, .int .i64 0, .int .i64 0, .slice none 0 0, .bool false, .int .u8 0, .bool false] ++ [])) := by rw [← hw5]; exact Bk.at_ wr _ _ hq rfl
        rw [hq, hw5]
        refine wpList_store_part rfl 70 _ _ rfl q 0 (.agg (deC x.2 (.slice A' N' C')).toArray) (deC x.2 (.slice A' N' C')) rfl rfl rfl 70 [] _ [] kb rfl rfl (de_size' _ _ _ _) (deC_one _ _ _ _) ?_
        intro w6 hp
        have hbn : Below wr.heap.size wr w6 := hbn.grown hp.only hbn.size (fun q' hq' => by injection hq' with hq'; omega)
        have HFI6 := Lib.hid (HFI.out.later hbn)
        have HQ6 : Hid (Bk w6 q 70 (deC x.2 (.slice A' N' C'))) := by show Bk _ _ _ _; have := hp.bk; simpa using this
        clear hp hbn kb hq hw5 HFI HR
        go_wp2_with (with_reducible refine wpList_load_bk rfl 70 _ rfl q rfl (deC x.2 (.slice A' N' C')) 70 HQ6.out _ Try.underlying70 rfl (de_size' x.2 A' N' C') ?_)
        refine (dsign_any w w6 lo g es HFI6.out.bk HEL.out HFI6.out.lh HFI6.out.hb HFI6.out.wl x.2 A' N' C' HDO.out).mono ?_
        rintro e w7 ⟨⟨cs, rfl, hth⟩, hbk, hb, hk7⟩
        have HFI7 := Lib.hid (HFI6.out.sign hk7 hb hbk); have HTH7 := Lib.hid hth
        clear hth hbk hb hk7 HFI6 HQ6
        go_wp2_with (with_reducible refine stop_bs 68 _ _ rfl ?_)
        refine StopD.go ?_
        refine wpList_bsliceG rfl 68 1 _ rfl #[(0, .agg cs.toArray)] ?_ 35 cs (fun w => bs_th HTH7.out w) ?_
        · simp [Act.eval, Act.put]
        intro q8 w8 hq8 hb8 hbn
        have HFI8 := Lib.hid (HFI7.out.later hbn); have HTH8 := Lib.hid (HTH7.out.later hbn); have HB8 := Lib.hid hb8
        clear hq8 hb8 hbn HFI7 HTH7
        go_wp2_with (at_builtin; refine stop_here ?_)
        refine StopD.go ?_
        obtain ⟨i0, z0, hi, hi0, hi1, hi2, hi3⟩ := th_parts
        have hyk := HSS.out.1
        have hk20 := HFL.out.2
        rw [HLN.out] at hk20
        refine wpList_app _ rfl (.tmp 35) (.tmp 39) 68 rfl lo 35 i0 z0 30 120 Try.underlying68 hi hi0 hi1 hi2 hi3 (by decide) _ _ _ rfl HFI8.out.row _ _ _ _ _ rfl (Sl.of_own (HB8.out.own (base := 0) (size := 30) (cap := 1) (n := 1) (Nat.zero_le _) (Nat.le_refl _) (by omega) (by rw [HTH8.out.len]) (by rw [List.take_of_length_le (by rw [HTH8.out.len]; exact Nat.le_refl _)]))) HTH8.out.one (by unfold maxLen; omega) (by omega) HFI8.out.lh ?_
        intro v w9 hown hg hat
        have HFI9 := Lib.hid (HFI8.out.app (y := (cs, deT x.2 es)) HTH8.out hown hg)
        clear hown hg hat hi hi0 hi1 hi2 hi3 hyk hk20
        go_wp2_with fail
        case roundEnd =>
          refine ⟨⟨k + 1, hlt, by simp, _, _, HFI9, by simp [HSS.out.1], ?_⟩, by simp [intOf]; omega⟩
          have hs := HSS.out.2
          rw [List.take_add_one, HXK.out]
          simp only [Option.toList_some, List.map_append, List.map_cons, List.map_nil]
          rw [signS_add, ← hs]
          rfl
      · have hki : ¬ ((k : Int) < N) := by omega
        have HEL : Hid (es.length ≤ 65536) := by
          have h1 := congrArg Prod.snd HSS.out.2
          have h2 := (signS_len _ ((xs.take k).map (·.2)) rfl).2
          have h3 := HFL.out.2
          show es.length ≤ 65536
          rw [show es = _ from h1]
          rw [List.length_map, List.length_take] at h2
          omega
        obtain ⟨A8, C8, hv8, _⟩ := HFI.out.ths
        subst hv8
        obtain ⟨n, hn⟩ : ∃ n, ys.length = n := ⟨_, rfl⟩
        have HN20 : Hid (n ≤ 20) := by show n ≤ 20; have h1 := HSS.out.1; have h2 := HFL.out.2; rw [HLN.out] at h2; omega
        have HYN := Lib.hid hn
        rw [hn]
        clear hn hlt hk
        go_wp2_with fail
        refine (table_any wr second).mono ?_
        rintro e w5 ⟨rfl, hbn⟩
        have HFI5 := Lib.hid (HFI.out.later hbn)
        clear hbn HFI
        go_wp2_with fail
        refine (key_any w5 seat).mono ?_
        rintro e w6 ⟨rfl, hbn⟩
        have HFI6 := Lib.hid (HFI5.out.later hbn)
        clear hbn HFI5
        go_wp2_with (with_reducible refine stop_store 29 _ _ rfl ?_)
        refine StopD.go ?_
        obtain ⟨gp, hgp⟩ : ∃ g, w6.heap.size = g := ⟨_, rfl⟩
        obtain ⟨w7, hw7⟩ : ∃ w', (w6.alloc (.cells #[.int .u8 0, .int .u8 0, .int .u8 0, .int .u8 0, .int .u8 0, .int .u8 0, .int .u8 0, .int .u8 0] 29)).alloc (.cells #[.int .u8 0, .int .u8 0, .int .u8 0, .int .u8 0, .int .u8 0, .int .u8 0, .int .u8 0, .int .u8 0] 29) = w' := ⟨_, rfl⟩
        have hbn : Below w6.heap.size w6 w7 := hw7 ▸ (below_new w6 _).alloc (by simp) _
        have kp : Bk w7 gp 29 ([] ++ (dl zeroD ++ [])) := hw7 ▸ (Bk.at_ w6 _ _ hgp rfl).alloc _
        have kq : Bk w7 (gp + 1) 29 ([] ++ (dl zeroD ++ [])) := hw7 ▸ Bk.at_ _ _ _ (by simp [hgp]) rfl
        rw [hgp, hw7]
        refine wpList_store_part rfl 29 _ _ rfl gp 0 (.agg (dl (tabD second)).toArray) (dl (tabD second)) rfl rfl rfl 29 [] (dl zeroD) [] kp rfl rfl (hdg_size _ (tabD_ok _)) (dl_one' _) ?_
        intro w8 hp
        have hbn : Below w6.heap.size w6 w8 := hbn.grown hp.only hbn.size (fun q hq => by injection hq with hq; omega)
        have kp : Bk w8 gp 29 (dl (tabD second)) := by have := hp.bk; simpa using this
        have kq : Bk w8 (gp + 1) 29 ([] ++ (dl zeroD ++ [])) := kq.grown hp.only (by intro e; injection e with e; omega)
        have HBN := Lib.hid hbn; have HKP := Lib.hid kp; have HKQ := Lib.hid kq; have HGP := Lib.hid hgp
        clear hp hbn kp kq hgp hw7
        go_wp2_with (with_reducible refine stop_store 29 _ _ rfl ?_)
        refine StopD.go ?_
        refine wpList_store_part rfl 29 _ _ rfl (gp + 1) 0 (.agg (dl (keyD seat)).toArray) (dl (keyD seat)) rfl rfl rfl 29 [] (dl zeroD) [] HKQ.out rfl rfl (hdg_size _ (keyD_ok _)) (dl_one' _) ?_
        intro w9 hp
        have HKP9 := Lib.hid (HKP.out.grown hp.only (by intro e; injection e with e; omega))
        have HKQ9 : Hid (Bk w9 (gp + 1) 29 (dl (keyD seat))) := by show Bk _ _ _ _; have := hp.bk; simpa using this
        have HFI9 := Lib.hid (HFI6.out.later (HBN.out.grown hp.only HBN.out.size (fun q hq => by injection hq with hq; have := HGP.out; omega)))
        clear hp HBN HKP HKQ HFI6
        have HTS9 : Hid (Ths w9 A8 n ys) := by
          obtain ⟨A', C', e, h⟩ := HFI9.out.ths
          injection e with e1 e2 e3
          subst e1
          show Ths _ _ _ _
          rw [← HYN.out]; exact h
        go_wp2_with (first
          | (with_reducible refine wpList_load_bk rfl 29 _ rfl gp rfl (dl (tabD second)) 29 HKP9.out _ Try.underlying29 rfl (dg_sz (tabD_ok second)) ?_)
          | (with_reducible refine wpList_load_bk rfl 29 _ rfl (gp + 1) rfl (dl (keyD seat)) 29 HKQ9.out _ Try.underlying29 rfl (dg_sz (keyD_ok seat)) ?_))
        refine (find_any w9 lo g es HFI9.out.bk HEL.out (tabD second) (keyD seat) (tabD_ok _) (keyD_ok _) A8 n C8 ys HTS9.out (by have := HN20.out; omega)).mono ?_
        rintro e w10 ⟨fi, fj, is, rfl, hF, hbn⟩
        have HF := Lib.hid hF
        have HFI10 := Lib.hid (HFI9.out.later hbn); have HKP10 := Lib.hid (HKP9.out.later hbn); have HKQ10 := Lib.hid (HKQ9.out.later hbn)
        clear hF hbn HFI9 HKP9 HKQ9 HTS9
        have HLO : Hid (n ≤ 20) := HN20
        go_wp2_with fail
        go_loopw [16, 17, 58] (fun _ _ kv wr => ∃ k : Nat, k ≤ n ∧ kv = .int .i64 k ∧ Hid (∀ k', k' < k → ∀ m, m < k' → twI es (tabD second) (keyD seat) ys m k' ≠ 0) ∧ Hid (Below w10.heap.size w10 wr)) (fun _ _ kv _ => n - (intOf kv).toNat)
        case atStart => exact ⟨0, Nat.zero_le _, rfl, fun k' h => absurd h (by omega), Below.refl _ _⟩
        case round =>
          obtain ⟨k, hk, rfl, HJ, HB⟩ := hrel
          by_cases hlt : k < n
          · have hki : (k : Int) < n := by omega
            have hk0 : (0 : Int) ≤ k := by omega
            go_wp2_with fail
            go_loopw [17, 62] (fun _ iv wr => ∃ i : Nat, i ≤ k ∧ iv = .int .i64 i ∧ Hid (∀ m, m < i → twI es (tabD second) (keyD seat) ys m k ≠ 0) ∧ Hid (Below w10.heap.size w10 wr)) (fun _ iv _ => k - (intOf iv).toNat)
            case atStart => exact ⟨0, Nat.zero_le _, rfl, fun m h => absurd h (by omega), HB⟩
            case round =>
              clear HB
              obtain ⟨i, hi, rfl, HI, HB⟩ := hrel
              by_cases hil : i < k
              · have hii : (i : Int) < k := by omega
                have hi0 : (0 : Int) ≤ i := by omega
                have hiN : (i : Int) < n := by omega
                have HFIr := Lib.hid (HFI10.out.later HB.out)
                obtain ⟨x, hx⟩ : ∃ x, ys[i]? = some x := ⟨ys[i]'(by rw [HYN.out]; omega), List.getElem?_eq_getElem _⟩
                obtain ⟨y, hy⟩ : ∃ y, ys[k]? = some y := ⟨ys[k]'(by rw [HYN.out]; omega), List.getElem?_eq_getElem _⟩
                have HTW : Hid (twI es (tabD second) (keyD seat) ys i k = twT es (tabD second) (keyD seat) x.2 y.2) := by show _ = _; rw [twI, hx, hy]
                have HX := Lib.hid (HFIr.out.th x (List.mem_of_getElem? hx))
                have HY := Lib.hid (HFIr.out.th y (List.mem_of_getElem? hy))
                have hths : Ths wr A8 n ys := by
                  obtain ⟨A', C', e, h⟩ := HFIr.out.ths
                  injection e with e1 e2 e3
                  subst e1
                  rw [← HYN.out]; exact h
                obtain ⟨b, o, rfl, hrx⟩ := hths.at_ hx
                obtain ⟨b', o', e, hry⟩ := hths.at_ hy
                injection e with e; injection e with e1 e2; subst e1; subst e2
                have HRX := Lib.hid hrx; have HRY := Lib.hid hry
                have H1r := Lib.hid (HKP10.out.later HB.out); have H2r := Lib.hid (HKQ10.out.later HB.out)
                clear hx hy hrx hry hths
                have hbl : b < wr.heap.size := by
                  obtain ⟨v, hv⟩ : ∃ v, x.1[0]? = some v := ⟨x.1[0]'(by rw [HX.out.len]; omega), List.getElem?_eq_getElem _⟩
                  exact World.block_lt_of_cell? wr ⟨b, _, none⟩ (HRX.out 0 v hv)
                obtain ⟨E, hE⟩ : ∃ E, twT es (tabD second) (keyD seat) x.2 y.2 = E := ⟨_, rfl⟩
                have HTE := Lib.hid hE
                rw [hE] at HTW
                clear hE
                go_wp2_with fail
                refine wp_region_held_drew (S := fun w' => Bk w' gp 29 (dl (tabD second)) ∧ Bk w' (gp + 1) 29 (dl (keyD seat)) ∧ w'.rangeAt b (o + i * 30) x.1 ∧ w'.rangeAt b (o + k * 30) y.1) (by kernel_rfl) ⟨Bk.drew H1r.out, Bk.drew H2r.out, range_later HRX.out (below_draws wr _ 1) hbl, range_later HRY.out (below_draws wr _ 1) hbl⟩ (fun hHeld => ?_)
                have hbd : Below wr.heap.size wr wr.drew := below_draws wr wr.heap.size 1
                obtain ⟨wa, hwa⟩ : ∃ wa, wr.drew = wa := ⟨_, rfl⟩
                rw [hwa] at hbd hHeld ⊢
                have HFIa := Lib.hid (HFIr.out.later hbd); have HXa := Lib.hid (HX.out.later hbd); have HYa := Lib.hid (HY.out.later hbd); have H1a := Lib.hid (H1r.out.later hbd); have H2a := Lib.hid (H2r.out.later hbd); have HRXa := Lib.hid (range_later HRX.out hbd hbl); have HRYa := Lib.hid (range_later HRY.out hbd hbl); have HBa := Lib.hid (below_then HB.out hbd)
                have hbla : b < wa.heap.size := Nat.lt_of_lt_of_le hbl hbd.size
                clear hwa hbd hbl HX HY H1r H2r HRX HRY HFIr
                refine wpAnyH_take (i := 0) (v := ?_) rfl (by kernel_rfl) (by kernel_rfl) (by kernel_rfl) (fun _ _ _ h => h) (Or.inl ⟨by rfl, ?_⟩) (by assumption) ?_
                rotate_left
                · intro w hSw
                  (try dsimp only at hSw)
                  go_simp
                  try with_reducible rfl
                try simp only [Act.put, List.setIfInBounds_toArray, List.set_cons_zero, List.set_cons_succ, List.getElem_toArray, List.getElem_cons_zero, List.getElem_cons_succ]
                refine wpAnyH_take (i := 4) (v := ?_) rfl (by kernel_rfl) (by kernel_rfl) (by kernel_rfl) (fun _ _ _ h => h) (Or.inl ⟨by rfl, ?_⟩) (by assumption) ?_
                rotate_left
                · intro w hSw
                  (try dsimp only at hSw)
                  go_simp
                  try with_reducible rfl
                try simp only [Act.put, List.setIfInBounds_toArray, List.set_cons_zero, List.set_cons_succ, List.getElem_toArray, List.getElem_cons_zero, List.getElem_cons_succ]
                refine wpAnyH_take (i := 5) (v := ?_) rfl (by kernel_rfl) (by kernel_rfl) (by kernel_rfl) (fun _ _ _ h => h) (Or.inl ⟨by rfl, ?_⟩) (by assumption) ?_
                rotate_left
                · intro w hSw
                  (try dsimp only at hSw)
                  go_simp
                  try with_reducible rfl
                try simp only [Act.put, List.setIfInBounds_toArray, List.set_cons_zero, List.set_cons_succ, List.getElem_toArray, List.getElem_cons_zero, List.getElem_cons_succ]
                refine wpAnyH_take (i := 8) (v := ?_) rfl (by kernel_rfl) (by kernel_rfl) (by kernel_rfl) (fun _ _ _ h => h) (Or.inl ⟨by rfl, ?_⟩) (by assumption) ?_
                rotate_left
                · intro w hSw
                  (try dsimp only at hSw)
                  go_simp
                  try with_reducible rfl
                try simp only [Act.put, List.setIfInBounds_toArray, List.set_cons_zero, List.set_cons_succ, List.getElem_toArray, List.getElem_cons_zero, List.getElem_cons_succ]
                refine wpAnyH_take (i := 9) (v := ?_) rfl (by kernel_rfl) (by kernel_rfl) (by kernel_rfl) (fun _ _ _ h => h) (Or.inl ⟨by rfl, ?_⟩) (by assumption) ?_
                rotate_left
                · intro w hSw
                  (try dsimp only at hSw)
                  go_simp
                  try with_reducible rfl
                try simp only [Act.put, List.setIfInBounds_toArray, List.set_cons_zero, List.set_cons_succ, List.getElem_toArray, List.getElem_cons_zero, List.getElem_cons_succ]
                refine wpAnyH_take (i := 2) (v := .agg (List.toArray (dl (tabD second)))) rfl (by kernel_rfl) (by kernel_rfl) (by kernel_rfl) (fun _ _ _ h => h) (yieldsIf_load_mid (by rfl) _ _ rfl _ _ rfl (dl (tabD second)) _ (fun w hSw => (Bk.range (pre := []) (post := []) (by simpa using hSw.1) rfl)) Try.underlying29 rfl (dg_sz (tabD_ok second))) (by assumption) ?_
                try simp only [Act.put, List.setIfInBounds_toArray, List.set_cons_zero, List.set_cons_succ, List.getElem_toArray, List.getElem_cons_zero, List.getElem_cons_succ]
                refine wpAnyH_take (i := 3) (v := .agg (List.toArray (dl (keyD seat)))) rfl (by kernel_rfl) (by kernel_rfl) (by kernel_rfl) (fun _ _ _ h => h) (yieldsIf_load_mid (by rfl) _ _ rfl _ _ rfl (dl (keyD seat)) _ (fun w hSw => (Bk.range (pre := []) (post := []) (by simpa using hSw.2.1) rfl)) Try.underlying29 rfl (dg_sz (keyD_ok seat))) (by assumption) ?_
                try simp only [Act.put, List.setIfInBounds_toArray, List.set_cons_zero, List.set_cons_succ, List.getElem_toArray, List.getElem_cons_zero, List.getElem_cons_succ]
                refine wpAnyH_take (i := 1) (v := ?_) rfl (by kernel_rfl) (by kernel_rfl) (by kernel_rfl) (fun _ _ _ h => h) (Or.inl ⟨by rfl, ?_⟩) (by assumption) ?_
                rotate_left
                · intro w hSw
                  (try dsimp only at hSw)
                  go_simp
                  try with_reducible rfl
                try simp only [Act.put, List.setIfInBounds_toArray, List.set_cons_zero, List.set_cons_succ, List.getElem_toArray, List.getElem_cons_zero, List.getElem_cons_succ]
                refine wpAnyH_take (i := 6) (v := ?_) rfl (by kernel_rfl) (by kernel_rfl) (by kernel_rfl) (fun _ _ _ h => h) (Or.inl ⟨by rfl, ?_⟩) (by assumption) ?_
                rotate_left
                · intro w hSw
                  (try dsimp only at hSw)
                  go_simp
                  try with_reducible rfl
                try simp only [Act.put, List.setIfInBounds_toArray, List.set_cons_zero, List.set_cons_succ, List.getElem_toArray, List.getElem_cons_zero, List.getElem_cons_succ]
                refine wpAnyH_take (i := 10) (v := ?_) rfl (by kernel_rfl) (by kernel_rfl) (by kernel_rfl) (fun _ _ _ h => h) (Or.inl ⟨by rfl, ?_⟩) (by assumption) ?_
                rotate_left
                · intro w hSw
                  (try dsimp only at hSw)
                  go_simp
                  try with_reducible rfl
                try simp only [Act.put, List.setIfInBounds_toArray, List.set_cons_zero, List.set_cons_succ, List.getElem_toArray, List.getElem_cons_zero, List.getElem_cons_succ]
                refine wpAnyH_take (i := 7) (v := .agg (List.toArray (x.1))) rfl (by kernel_rfl) (by kernel_rfl) (by kernel_rfl) (fun _ _ _ h => h) (yieldsIf_load_mid (by rfl) _ _ rfl _ _ rfl (x.1) _ (fun w hSw => hSw.2.2.1) Try.underlying35 rfl (HXa.out.info)) (by assumption) ?_
                try simp only [Act.put, List.setIfInBounds_toArray, List.set_cons_zero, List.set_cons_succ, List.getElem_toArray, List.getElem_cons_zero, List.getElem_cons_succ]
                refine wpAnyH_take (i := 11) (v := .agg (List.toArray (y.1))) rfl (by kernel_rfl) (by kernel_rfl) (by kernel_rfl) (fun _ _ _ h => h) (yieldsIf_load_mid (by rfl) _ _ rfl _ _ rfl (y.1) _ (fun w hSw => hSw.2.2.2) Try.underlying35 rfl (HYa.out.info)) (by assumption) ?_
                try simp only [Act.put, List.setIfInBounds_toArray, List.set_cons_zero, List.set_cons_succ, List.getElem_toArray, List.getElem_cons_zero, List.getElem_cons_succ]
                refine wpAnyH_ready (rs := [12]) (by kernel_rfl) (by simp) ?_
                refine AllReadyH.cons rfl (fun K hK => ?_) AllReadyH.nil
                go_simp
                (go_at_call 35; refine (twice_any wa lo g es HFIa.out.bk HEL.out (tabD second) (keyD seat) (tabD_ok _) (keyD_ok _) x.1 y.1 x.2 y.2 (HXa.out.thg HFIa.out.hb) (HYa.out.thg HFIa.out.hb)).mono ?_; rintro e w2 ⟨he, hbn⟩; rw [HTE.out] at he; subst he; have HFIb := Lib.hid (HFIa.out.later hbn); have HXb := Lib.hid (HXa.out.later hbn); have HYb := Lib.hid (HYa.out.later hbn); have H1b := Lib.hid (H1a.out.later hbn); have H2b := Lib.hid (H2a.out.later hbn); have HRXb := Lib.hid (range_later HRXa.out hbn hbla); have HRYb := Lib.hid (range_later HRYa.out hbn hbla); have HBb := Lib.hid (below_then HBa.out hbn); have hblb : b < w2.heap.size := Nat.lt_of_lt_of_le hbla hbn.size; clear hbn hbla)
                refine hK.out _ _ (⟨H1b.out, H2b.out, HRXb.out, HRYb.out⟩) (fun hHeld => ?_)
                clear hK K
                try simp only [Act.put, List.setIfInBounds_toArray, List.set_cons_zero, List.set_cons_succ, List.getElem_toArray, List.getElem_cons_zero, List.getElem_cons_succ]
                by_cases h0 : E = 0
                · subst h0
                  obtain ⟨f1, f2, f3⟩ := FindR_hit HF.out hil hlt HTW.out HJ.out HI.out
                  subst f1; subst f2; subst f3
                  have HTC := Lib.hid (twT_comm HTE.out)
                  refine wpAnyH_take (i := 13) (v := ?_) rfl (by kernel_rfl) (by kernel_rfl) (by kernel_rfl) (fun _ _ _ h => h) (Or.inl ⟨by rfl, ?_⟩) (by assumption) ?_
                  rotate_left
                  · intro w hSw
                    (try dsimp only at hSw)
                    go_simp
                    try with_reducible rfl
                  try simp only [Act.put, List.setIfInBounds_toArray, List.set_cons_zero, List.set_cons_succ, List.getElem_toArray, List.getElem_cons_zero, List.getElem_cons_succ]
                  refine wpAnyH_done (by kernel_rfl) ?_ _
                  clear hHeld
                  go_upto_region 21 with fail
                  refine wp_region_held_drew (S := fun w' => Bk w' gp 29 (dl (tabD second)) ∧ Bk w' (gp + 1) 29 (dl (keyD seat)) ∧ w'.rangeAt b (o + fi * 30) x.1 ∧ w'.rangeAt b (o + fj * 30) y.1) (by kernel_rfl) ⟨Bk.drew H1b.out, Bk.drew H2b.out, range_later HRXb.out (below_draws w2 _ 1) hblb, range_later HRYb.out (below_draws w2 _ 1) hblb⟩ (fun hHeld => ?_)
                  have hbd : Below w2.heap.size w2 w2.drew := below_draws w2 w2.heap.size 1
                  obtain ⟨wd, hwd⟩ : ∃ wd, w2.drew = wd := ⟨_, rfl⟩
                  rw [hwd] at hbd hHeld ⊢
                  have HFId := Lib.hid (HFIb.out.later hbd); have HXd := Lib.hid (HXb.out.later hbd); have HYd := Lib.hid (HYb.out.later hbd); have H1d := Lib.hid (H1b.out.later hbd); have H2d := Lib.hid (H2b.out.later hbd); have HRXd := Lib.hid (range_later HRXb.out hbd hblb); have HRYd := Lib.hid (range_later HRYb.out hbd hblb)
                  have hbld : b < wd.heap.size := Nat.lt_of_lt_of_le hblb hbd.size
                  clear hwd hbd hblb
                  refine wpAnyH_take (i := 0) (v := ?_) rfl (by kernel_rfl) (by kernel_rfl) (by kernel_rfl) (fun _ _ _ h => h) (Or.inl ⟨by rfl, ?_⟩) (by assumption) ?_
                  rotate_left
                  · intro w hSw
                    (try dsimp only at hSw)
                    go_simp
                    try with_reducible rfl
                  try simp only [Act.put, List.setIfInBounds_toArray, List.set_cons_zero, List.set_cons_succ, List.getElem_toArray, List.getElem_cons_zero, List.getElem_cons_succ]
                  refine wpAnyH_take (i := 1) (v := ?_) rfl (by kernel_rfl) (by kernel_rfl) (by kernel_rfl) (fun _ _ _ h => h) (Or.inl ⟨by rfl, ?_⟩) (by assumption) ?_
                  rotate_left
                  · intro w hSw
                    (try dsimp only at hSw)
                    go_simp
                    try with_reducible rfl
                  try simp only [Act.put, List.setIfInBounds_toArray, List.set_cons_zero, List.set_cons_succ, List.getElem_toArray, List.getElem_cons_zero, List.getElem_cons_succ]
                  refine wpAnyH_take (i := 2) (v := ?_) rfl (by kernel_rfl) (by kernel_rfl) (by kernel_rfl) (fun _ _ _ h => h) (Or.inl ⟨by rfl, ?_⟩) (by assumption) ?_
                  rotate_left
                  · intro w hSw
                    (try dsimp only at hSw)
                    go_simp
                    try with_reducible rfl
                  try simp only [Act.put, List.setIfInBounds_toArray, List.set_cons_zero, List.set_cons_succ, List.getElem_toArray, List.getElem_cons_zero, List.getElem_cons_succ]
                  refine wpAnyH_take (i := 3) (v := ?_) rfl (by kernel_rfl) (by kernel_rfl) (by kernel_rfl) (fun _ _ _ h => h) (Or.inl ⟨by rfl, ?_⟩) (by assumption) ?_
                  rotate_left
                  · intro w hSw
                    (try dsimp only at hSw)
                    go_simp
                    try with_reducible rfl
                  try simp only [Act.put, List.setIfInBounds_toArray, List.set_cons_zero, List.set_cons_succ, List.getElem_toArray, List.getElem_cons_zero, List.getElem_cons_succ]
                  refine wpAnyH_take (i := 4) (v := ?_) rfl (by kernel_rfl) (by kernel_rfl) (by kernel_rfl) (fun _ _ _ h => h) (Or.inl ⟨by rfl, ?_⟩) (by assumption) ?_
                  rotate_left
                  · intro w hSw
                    (try dsimp only at hSw)
                    go_simp
                    try with_reducible rfl
                  try simp only [Act.put, List.setIfInBounds_toArray, List.set_cons_zero, List.set_cons_succ, List.getElem_toArray, List.getElem_cons_zero, List.getElem_cons_succ]
                  refine wpAnyH_take (i := 5) (v := ?_) rfl (by kernel_rfl) (by kernel_rfl) (by kernel_rfl) (fun _ _ _ h => h) (Or.inl ⟨by rfl, ?_⟩) (by assumption) ?_
                  rotate_left
                  · intro w hSw
                    (try dsimp only at hSw)
                    go_simp
                    try with_reducible rfl
                  try simp only [Act.put, List.setIfInBounds_toArray, List.set_cons_zero, List.set_cons_succ, List.getElem_toArray, List.getElem_cons_zero, List.getElem_cons_succ]
                  refine wpAnyH_take (i := 6) (v := ?_) rfl (by kernel_rfl) (by kernel_rfl) (by kernel_rfl) (fun _ _ _ h => h) (Or.inl ⟨by rfl, ?_⟩) (by assumption) ?_
                  rotate_left
                  · intro w hSw
                    (try dsimp only at hSw)
                    go_simp
                    try with_reducible rfl
                  try simp only [Act.put, List.setIfInBounds_toArray, List.set_cons_zero, List.set_cons_succ, List.getElem_toArray, List.getElem_cons_zero, List.getElem_cons_succ]
                  refine wpAnyH_take (i := 7) (v := ?_) rfl (by kernel_rfl) (by kernel_rfl) (by kernel_rfl) (fun _ _ _ h => h) (Or.inl ⟨by rfl, ?_⟩) (by assumption) ?_
                  rotate_left
                  · intro w hSw
                    (try dsimp only at hSw)
                    go_simp
                    try with_reducible rfl
                  try simp only [Act.put, List.setIfInBounds_toArray, List.set_cons_zero, List.set_cons_succ, List.getElem_toArray, List.getElem_cons_zero, List.getElem_cons_succ]
                  refine wpAnyH_take (i := 8) (v := ?_) rfl (by kernel_rfl) (by kernel_rfl) (by kernel_rfl) (fun _ _ _ h => h) (Or.inl ⟨by rfl, ?_⟩) (by assumption) ?_
                  rotate_left
                  · intro w hSw
                    (try dsimp only at hSw)
                    go_simp
                    try with_reducible rfl
                  try simp only [Act.put, List.setIfInBounds_toArray, List.set_cons_zero, List.set_cons_succ, List.getElem_toArray, List.getElem_cons_zero, List.getElem_cons_succ]
                  refine wpAnyH_take (i := 9) (v := ?_) rfl (by kernel_rfl) (by kernel_rfl) (by kernel_rfl) (fun _ _ _ h => h) (Or.inl ⟨by rfl, ?_⟩) (by assumption) ?_
                  rotate_left
                  · intro w hSw
                    (try dsimp only at hSw)
                    go_simp
                    try with_reducible rfl
                  try simp only [Act.put, List.setIfInBounds_toArray, List.set_cons_zero, List.set_cons_succ, List.getElem_toArray, List.getElem_cons_zero, List.getElem_cons_succ]
                  refine wpAnyH_take (i := 10) (v := ?_) rfl (by kernel_rfl) (by kernel_rfl) (by kernel_rfl) (fun _ _ _ h => h) (Or.inl ⟨by rfl, ?_⟩) (by assumption) ?_
                  rotate_left
                  · intro w hSw
                    (try dsimp only at hSw)
                    go_simp
                    try with_reducible rfl
                  try simp only [Act.put, List.setIfInBounds_toArray, List.set_cons_zero, List.set_cons_succ, List.getElem_toArray, List.getElem_cons_zero, List.getElem_cons_succ]
                  refine wpAnyH_take (i := 11) (v := ?_) rfl (by kernel_rfl) (by kernel_rfl) (by kernel_rfl) (fun _ _ _ h => h) (Or.inl ⟨by rfl, ?_⟩) (by assumption) ?_
                  rotate_left
                  · intro w hSw
                    (try dsimp only at hSw)
                    go_simp
                    try with_reducible rfl
                  try simp only [Act.put, List.setIfInBounds_toArray, List.set_cons_zero, List.set_cons_succ, List.getElem_toArray, List.getElem_cons_zero, List.getElem_cons_succ]
                  refine wpAnyH_take (i := 12) (v := ?_) rfl (by kernel_rfl) (by kernel_rfl) (by kernel_rfl) (fun _ _ _ h => h) (Or.inl ⟨by rfl, ?_⟩) (by assumption) ?_
                  rotate_left
                  · intro w hSw
                    (try dsimp only at hSw)
                    go_simp
                    try with_reducible rfl
                  try simp only [Act.put, List.setIfInBounds_toArray, List.set_cons_zero, List.set_cons_succ, List.getElem_toArray, List.getElem_cons_zero, List.getElem_cons_succ]
                  refine wpAnyH_take (i := 16) (v := ?_) rfl (by kernel_rfl) (by kernel_rfl) (by kernel_rfl) (fun _ _ _ h => h) (Or.inl ⟨by rfl, ?_⟩) (by assumption) ?_
                  rotate_left
                  · intro w hSw
                    (try dsimp only at hSw)
                    go_simp
                    try with_reducible rfl
                  try simp only [Act.put, List.setIfInBounds_toArray, List.set_cons_zero, List.set_cons_succ, List.getElem_toArray, List.getElem_cons_zero, List.getElem_cons_succ]
                  refine wpAnyH_take (i := 17) (v := ?_) rfl (by kernel_rfl) (by kernel_rfl) (by kernel_rfl) (fun _ _ _ h => h) (Or.inl ⟨by rfl, ?_⟩) (by assumption) ?_
                  rotate_left
                  · intro w hSw
                    (try dsimp only at hSw)
                    go_simp
                    try with_reducible rfl
                  try simp only [Act.put, List.setIfInBounds_toArray, List.set_cons_zero, List.set_cons_succ, List.getElem_toArray, List.getElem_cons_zero, List.getElem_cons_succ]
                  refine wpAnyH_take (i := 20) (v := ?_) rfl (by kernel_rfl) (by kernel_rfl) (by kernel_rfl) (fun _ _ _ h => h) (Or.inl ⟨by rfl, ?_⟩) (by assumption) ?_
                  rotate_left
                  · intro w hSw
                    (try dsimp only at hSw)
                    go_simp
                    try with_reducible rfl
                  try simp only [Act.put, List.setIfInBounds_toArray, List.set_cons_zero, List.set_cons_succ, List.getElem_toArray, List.getElem_cons_zero, List.getElem_cons_succ]
                  refine wpAnyH_take (i := 21) (v := ?_) rfl (by kernel_rfl) (by kernel_rfl) (by kernel_rfl) (fun _ _ _ h => h) (Or.inl ⟨by rfl, ?_⟩) (by assumption) ?_
                  rotate_left
                  · intro w hSw
                    (try dsimp only at hSw)
                    go_simp
                    try with_reducible rfl
                  try simp only [Act.put, List.setIfInBounds_toArray, List.set_cons_zero, List.set_cons_succ, List.getElem_toArray, List.getElem_cons_zero, List.getElem_cons_succ]
                  refine wpAnyH_take (i := 14) (v := .agg (List.toArray (dl (tabD second)))) rfl (by kernel_rfl) (by kernel_rfl) (by kernel_rfl) (fun _ _ _ h => h) (yieldsIf_load_mid (by rfl) _ _ rfl _ _ rfl (dl (tabD second)) _ (fun w hSw => (Bk.range (pre := []) (post := []) (by simpa using hSw.1) rfl)) Try.underlying29 rfl (dg_sz (tabD_ok second))) (by assumption) ?_
                  try simp only [Act.put, List.setIfInBounds_toArray, List.set_cons_zero, List.set_cons_succ, List.getElem_toArray, List.getElem_cons_zero, List.getElem_cons_succ]
                  refine wpAnyH_take (i := 15) (v := .agg (List.toArray (dl (keyD seat)))) rfl (by kernel_rfl) (by kernel_rfl) (by kernel_rfl) (fun _ _ _ h => h) (yieldsIf_load_mid (by rfl) _ _ rfl _ _ rfl (dl (keyD seat)) _ (fun w hSw => (Bk.range (pre := []) (post := []) (by simpa using hSw.2.1) rfl)) Try.underlying29 rfl (dg_sz (keyD_ok seat))) (by assumption) ?_
                  try simp only [Act.put, List.setIfInBounds_toArray, List.set_cons_zero, List.set_cons_succ, List.getElem_toArray, List.getElem_cons_zero, List.getElem_cons_succ]
                  refine wpAnyH_take (i := 13) (v := ?_) rfl (by kernel_rfl) (by kernel_rfl) (by kernel_rfl) (fun _ _ _ h => h) (Or.inl ⟨by rfl, ?_⟩) (by assumption) ?_
                  rotate_left
                  · intro w hSw
                    (try dsimp only at hSw)
                    go_simp
                    try with_reducible rfl
                  try simp only [Act.put, List.setIfInBounds_toArray, List.set_cons_zero, List.set_cons_succ, List.getElem_toArray, List.getElem_cons_zero, List.getElem_cons_succ]
                  refine wpAnyH_take (i := 18) (v := ?_) rfl (by kernel_rfl) (by kernel_rfl) (by kernel_rfl) (fun _ _ _ h => h) (Or.inl ⟨by rfl, ?_⟩) (by assumption) ?_
                  rotate_left
                  · intro w hSw
                    (try dsimp only at hSw)
                    go_simp
                    try with_reducible rfl
                  try simp only [Act.put, List.setIfInBounds_toArray, List.set_cons_zero, List.set_cons_succ, List.getElem_toArray, List.getElem_cons_zero, List.getElem_cons_succ]
                  refine wpAnyH_take (i := 22) (v := ?_) rfl (by kernel_rfl) (by kernel_rfl) (by kernel_rfl) (fun _ _ _ h => h) (Or.inl ⟨by rfl, ?_⟩) (by assumption) ?_
                  rotate_left
                  · intro w hSw
                    (try dsimp only at hSw)
                    go_simp
                    try with_reducible rfl
                  try simp only [Act.put, List.setIfInBounds_toArray, List.set_cons_zero, List.set_cons_succ, List.getElem_toArray, List.getElem_cons_zero, List.getElem_cons_succ]
                  refine wpAnyH_take (i := 19) (v := .agg (List.toArray (y.1))) rfl (by kernel_rfl) (by kernel_rfl) (by kernel_rfl) (fun _ _ _ h => h) (yieldsIf_load_mid (by rfl) _ _ rfl _ _ rfl (y.1) _ (fun w hSw => hSw.2.2.2) Try.underlying35 rfl (HYd.out.info)) (by assumption) ?_
                  try simp only [Act.put, List.setIfInBounds_toArray, List.set_cons_zero, List.set_cons_succ, List.getElem_toArray, List.getElem_cons_zero, List.getElem_cons_succ]
                  refine wpAnyH_take (i := 23) (v := .agg (List.toArray (x.1))) rfl (by kernel_rfl) (by kernel_rfl) (by kernel_rfl) (fun _ _ _ h => h) (yieldsIf_load_mid (by rfl) _ _ rfl _ _ rfl (x.1) _ (fun w hSw => hSw.2.2.1) Try.underlying35 rfl (HXd.out.info)) (by assumption) ?_
                  try simp only [Act.put, List.setIfInBounds_toArray, List.set_cons_zero, List.set_cons_succ, List.getElem_toArray, List.getElem_cons_zero, List.getElem_cons_succ]
                  refine wpAnyH_ready (rs := [24]) (by kernel_rfl) (by simp) ?_
                  refine AllReadyH.cons rfl (fun K hK => ?_) AllReadyH.nil
                  go_simp
                  (go_at_call 35; refine (twice_any wd lo g es HFId.out.bk HEL.out (tabD second) (keyD seat) (tabD_ok _) (keyD_ok _) y.1 x.1 y.2 x.2 (HYd.out.thg HFId.out.hb) (HXd.out.thg HFId.out.hb)).mono ?_; rintro e we ⟨he, hbn⟩; rw [HTC.out] at he; subst he; have HFIe := Lib.hid (HFId.out.later hbn); have H1e := Lib.hid (H1d.out.later hbn); have H2e := Lib.hid (H2d.out.later hbn); have HRXe := Lib.hid (range_later HRXd.out hbn hbld); have HRYe := Lib.hid (range_later HRYd.out hbn hbld); clear hbn hbld)
                  refine hK.out _ _ (⟨H1e.out, H2e.out, HRXe.out, HRYe.out⟩) (fun hHeld => ?_)
                  clear hK K
                  try simp only [Act.put, List.setIfInBounds_toArray, List.set_cons_zero, List.set_cons_succ, List.getElem_toArray, List.getElem_cons_zero, List.getElem_cons_succ]
                  refine wpAnyH_take (i := 25) (v := ?_) rfl (by kernel_rfl) (by kernel_rfl) (by kernel_rfl) (fun _ _ _ h => h) (Or.inl ⟨by rfl, ?_⟩) (by assumption) ?_
                  rotate_left
                  · intro w hSw
                    (try dsimp only at hSw)
                    go_simp
                    try with_reducible rfl
                  try simp only [Act.put, List.setIfInBounds_toArray, List.set_cons_zero, List.set_cons_succ, List.getElem_toArray, List.getElem_cons_zero, List.getElem_cons_succ]
                  refine wpAnyH_take (i := 26) (v := ?_) rfl (by kernel_rfl) (by kernel_rfl) (by kernel_rfl) (fun _ _ _ h => h) (Or.inl ⟨by rfl, ?_⟩) (by assumption) ?_
                  rotate_left
                  · intro w hSw
                    (try dsimp only at hSw)
                    go_simp
                    try with_reducible rfl
                  try simp only [Act.put, List.setIfInBounds_toArray, List.set_cons_zero, List.set_cons_succ, List.getElem_toArray, List.getElem_cons_zero, List.getElem_cons_succ]
                  refine wpAnyH_take (i := 27) (v := ?_) rfl (by kernel_rfl) (by kernel_rfl) (by kernel_rfl) (fun _ _ _ h => h) (Or.inl ⟨by rfl, ?_⟩) (by assumption) ?_
                  rotate_left
                  · intro w hSw
                    (try dsimp only at hSw)
                    go_simp
                    try with_reducible rfl
                  try simp only [Act.put, List.setIfInBounds_toArray, List.set_cons_zero, List.set_cons_succ, List.getElem_toArray, List.getElem_cons_zero, List.getElem_cons_succ]
                  refine wpAnyH_done (by kernel_rfl) ?_ _
                  clear hHeld
                  go_wp2_with fail
                  go_ret
                  exact ⟨rfl, HFIe.out.hb⟩
                · have h1 : (E == 0) = false := by simpa using h0
                  have HI2 : Hid (∀ m, m < i + 1 → twI es (tabD second) (keyD seat) ys m k ≠ 0) := fun m hm => by
                    by_cases h : m = i
                    · subst h; rw [HTW.out]; exact h0
                    · exact HI.out m (by omega)
                  clear h0
                  refine wpAnyH_take (i := 13) (v := ?_) rfl (by kernel_rfl) (by kernel_rfl) (by kernel_rfl) (fun _ _ _ h => h) (Or.inl ⟨by rfl, ?_⟩) (by assumption) ?_
                  rotate_left
                  · intro w hSw
                    (try dsimp only at hSw)
                    go_simp
                    try with_reducible rfl
                  try simp only [Act.put, List.setIfInBounds_toArray, List.set_cons_zero, List.set_cons_succ, List.getElem_toArray, List.getElem_cons_zero, List.getElem_cons_succ]
                  refine wpAnyH_done (by kernel_rfl) ?_ _
                  clear hHeld
                  have hn20 := HN20.out
                  go_wp2_with fail
                  go_roundw
                  case rel => exact ⟨i + 1, by omega, by go_num, HI2, HBb⟩
                  case measure => simp [intOf]; omega
              · have hik : k = i := by omega
                subst hik
                have HJ2 : Hid (∀ k', k' < k + 1 → ∀ m, m < k' → twI es (tabD second) (keyD seat) ys m k' ≠ 0) := fun k' hk' m hm => by
                  by_cases h : k' = k
                  · subst h; exact HI.out m hm
                  · exact HJ.out k' (by omega) m hm
                have hn20 := HN20.out
                go_wp2_with fail
                go_roundw
                case rel => exact ⟨k + 1, by omega, by go_num, HJ2, HB⟩
                case measure => simp [intOf]; omega
          · have hkk : n = k := by omega
            subst hkk
            obtain ⟨h1, h2, h3⟩ := FindR_none HF.out HJ.out
            subst h1; subst h2; subst h3
            go_wp2_with fail
            go_ret
            exact ⟨rfl, below_then HFI10.out.hb HB.out⟩
end Go.Proofs.Ythibihjblodfmaa
