/- Two signed states together: the document's. -/
import Derived.Test.YthibihjblodfmaaS18
namespace Go.Proofs.Ythibihjblodfmaa
open Go.RowKit Go.Maps

theorem joinP_ok {w : World} {ps qs : List Pc} (h : PcsOk w ps) (h' : PcsOk w qs) : PcsOk w (joinP ps qs) := fun r hr => by
  obtain ⟨i, hi, e⟩ := List.mem_iff_getElem.1 hr
  have hl := joinP_len ps qs
  rw [← e]
  simp only [joinP, List.getElem_zipWith]
  unfold pickP
  split
  · exact h' _ (List.getElem_mem _)
  · exact h _ (List.getElem_mem _)
/-- What the document's hands back. -/
def RetRJ (J : Jn) (w : World) (e : Ending) (w' : World) : Prop :=
  ∃ (P Q : Option Addr) (N c M d : Nat) (rs : List Pc), e = .returned (.tuple #[.agg (sgC J.n J.t (.slice P N c) (.slice Q M d)).toArray, .int .i64 J.e]) ∧ Sl w' w'.heap.size 1 P N (J.ps.map (.int .u8)) ∧ Sl w' w'.heap.size 1 Q M (rs.map Pc.v) ∧ PcsOk w' rs ∧ bsP rs = J.L ∧ Below w.heap.size w w'
theorem PcsBy.of {ps : List Pc} (h : ∀ b ∈ bsP ps, ByOk b) : PcsBy ps := fun p hp => h p.bs (List.mem_map_of_mem hp)
theorem PcsBy.all {ps : List Pc} (h : PcsBy ps) : ∀ b ∈ bsP ps, ByOk b := fun b hb => by obtain ⟨p, hp, rfl⟩ := List.mem_map.1 hb; exact h p hp
theorem own_cap {w : World} {base n c : Nat} {A : Option Addr} {e : TypeId} {size : Nat} {xs : List Value} (h : w.ownsRow base e size (.slice A n c) n xs) : n ≤ c := by
  rcases own_bk h with ⟨e1, e2, _⟩ | ⟨g', cap, ys, e1, _, _, hnc, _⟩
  · omega
  · injection e1 with _ _ e1; omega
set_option maxRecDepth 20000 in
set_option maxHeartbeats 8000000 in
theorem rjoin_any (w : World) (t t' : List Int) (ht : DgOk t) (ht' : DgOk t') (n n' : Int) (A A' B B' : Option Addr) (N C N' C' M D M' D' : Nat) (ps ps' : List Int) (qs qs' : List Pc)
    (hs : Sl w w.heap.size 1 A N (ps.map (.int .u8))) (hs' : Sl w w.heap.size 1 A' N' (ps'.map (.int .u8))) (hbo : ByOk ps) (hbo' : ByOk ps') (hq : Sl w w.heap.size 1 B M (qs.map Pc.v)) (hq' : Sl w w.heap.size 1 B' M' (qs'.map Pc.v)) (hp : PcsOk w qs) (hp' : PcsOk w qs')
    (hM : M ≤ 100000) :
    Calls Try.prog 54 #[.agg (sgC n t (.slice A N C) (.slice B M D)).toArray, .agg (sgC n' t' (.slice A' N' C') (.slice B' M' D')).toArray] w (RetRJ (joinR t t' n n' ps ps' (bsP qs) (bsP qs')) w) := by
  have HTZ : Hid ((Try.prog.info? 103).map (·.size) = some (staC n t (.slice A N C)).length) := by show _ = _; rw [staC_len ht]; exact rst_size
  have HUZ : Hid ((Try.prog.info? 103).map (·.size) = some (staC n' t' (.slice A' N' C')).length) := by show _ = _; rw [staC_len ht']; exact rst_size
  obtain ⟨X, hX⟩ : ∃ X, (sgC n t (.slice A N C) (.slice B M D)).toArray = X := ⟨_, rfl⟩
  obtain ⟨Y, hY⟩ : ∃ Y, (sgC n' t' (.slice A' N' C') (.slice B' M' D')).toArray = Y := ⟨_, rfl⟩
  obtain ⟨w1, hw1⟩ : ∃ w1, ((w.alloc (.cells X 105)).alloc (.cells Y 105)).alloc (.cells #[.int .u8 0, .int .u8 0, .int .u8 0, .int .u8 0, .int .u8 0, .int .u8 0, .int .u8 0, .int .u8 0, .int .i64 0, .slice none 0 0, .slice none 0 0] 105) = w1 := ⟨_, rfl⟩
  have hb1 : Below w.heap.size w w1 := hw1 ▸ ((below_new w _).alloc (by simp) _).alloc (by simp <;> omega) _
  have kx : Bk w1 w.heap.size 105 (sgC n t (.slice A N C) (.slice B M D)) := hw1 ▸ ((Bk.new' w _ X (by rw [← hX])).alloc _).alloc _
  have ky : Bk w1 (w.heap.size + 1) 105 (sgC n' t' (.slice A' N' C') (.slice B' M' D')) := hw1 ▸ (Bk.at_ _ _ Y (by simp) (by rw [← hY])).alloc _
  have kz : Bk w1 (w.heap.size + 2) 105 (sgC 0 zeroD (.slice none 0 0) (.slice none 0 0)) := hw1 ▸ Bk.at_ _ _ _ (by simp) rfl
  have HW := Lib.hid hw1; have HBB1 := Lib.hid hb1; have HA1 := Lib.hid kx; have HB1 := Lib.hid ky; have HZ1 := Lib.hid kz; have HTO := Lib.hid ht; have HUO := Lib.hid ht'
  have HS0 := Lib.hid hs; have HS0' := Lib.hid hs'; have HQ0 := Lib.hid hq; have HQ0' := Lib.hid hq'; have HP0 := Lib.hid hp; have HP0' := Lib.hid hp'; have HBO := Lib.hid hbo; have HBO' := Lib.hid hbo'
  have HQL := Lib.hid hq.length; have HQL' := Lib.hid hq'.length
  rw [hX, hY]
  clear hX hY hw1 hb1 kx ky kz hs hs' hq hq' hp hp' hbo hbo'
  have HSA := Lib.hid (rstSame_any w1 n n' t t' ht ht' A A' N N' C C' ps ps' HBO.out HBO'.out (HS0.out.later HBB1.out) (HS0'.out.later HBB1.out))
  unfold joinR
  rw [bsP_len, bsP_len, HQL.out, HQL'.out]
  obtain ⟨b1, hb1⟩ : ∃ b, sameS t t' n n' ps ps' = b := ⟨_, rfl⟩
  rw [hb1] at HSA ⊢
  have hrS := (sg_mem ht HA1.out).rS
  have hrS' := (sg_mem ht' HB1.out).rS
  have HPQ : Hid (∀ v : Value, (dl t ++ [Value.int .i64 n, v]).length = 10) := by intro v; simp [dl_len, ht.len]
  have HBS := Lib.hid (fun W => build_rsg1 (n := n) ht A N C W)
  obtain ⟨iP, hPi, hPz, hPs, hPb⟩ := info_parts Try.infoSlB
  clear hb1 ht ht'
  cases b1
  · rw [if_neg (by simp)]
    go_enter Try.func54, Try.ntmps54
    go_upto_region 1 with fail
    rw [HW.out]
    go_wp2_with (first
      | ((with_reducible refine wpList_load_mid rfl 103 _ rfl w.heap.size 0 rfl (staC n t (.slice A N C)) _ hrS Try.underlying103 rfl HTZ.out ?_))
      | ((with_reducible refine wpList_load_mid rfl 103 _ rfl (w.heap.size + 1) 0 rfl (staC n' t' (.slice A' N' C')) _ hrS' Try.underlying103 rfl HUZ.out ?_)))
    refine HSA.out.mono ?_
    rintro e w2 ⟨rfl, hbn⟩
    have HBB2 := Lib.hid (below_then HBB1.out hbn)
    have HA2 := Lib.hid (HA1.out.later hbn)
    have HB2 := Lib.hid (HB1.out.later hbn)
    have HZ2 := Lib.hid (HZ1.out.later hbn)
    clear hbn
    clear hrS'
    have h10 := (sg_mem HTO.out HA2.out).c10
    have h10' := (sg_mem HUO.out HB2.out).c10
    clear hrS
    go_wp2_with (first
      | ((with_reducible refine wpList_build rfl 105 _ rfl #[] ?_ _ (build_rsg0 _) ?_); focus (simp [Act.eval]; done))
      | (with_reducible refine stop_store 105 _ _ rfl ?_))
    refine StopD.go ?_
    refine wpList_store_part rfl 105 _ _ rfl (w.heap.size + 2) 0 (.agg (sgC 0 zeroD (.slice none 0 0) (.slice none 0 0)).toArray) (sgC 0 zeroD (.slice none 0 0) (.slice none 0 0)) rfl rfl rfl 105 [] _ [] (by simpa using HZ2.out) rfl rfl (rsg_info zero_ok) sg_one ?_
    intro w9 hp
    have HZ9 : Hid (Bk w9 (w.heap.size + 2) 105 (sgC 0 zeroD (.slice none 0 0) (.slice none 0 0))) := by show Bk _ _ _ _; have := hp.bk; simpa using this
    have HBB9 := Lib.hid (below_only HBB2.out hp.only HBB2.out.size (by omega))
    clear hp
    go_wp2_with fail
    refine bodyPost_ret (rjoin_ret zero_ok HZ9.out _ rfl rfl) rfl ?_
    exact ⟨none, none, 0, 0, 0, 0, [], rfl, Sl.nil, Sl.nil, PcsOk.nil _, rfl, HBB9.out⟩
  · rw [if_pos rfl]
    by_cases hnm : M = M'
    · subst hnm
      rw [if_pos rfl]
      have hne : ((M : Int) != (M : Int)) = false := by simp
      go_enter Try.func54, Try.ntmps54
      go_upto_region 1 with fail
      rw [HW.out]
      go_wp2_with (first
        | ((with_reducible refine wpList_load_mid rfl 103 _ rfl w.heap.size 0 rfl (staC n t (.slice A N C)) _ hrS Try.underlying103 rfl HTZ.out ?_))
        | ((with_reducible refine wpList_load_mid rfl 103 _ rfl (w.heap.size + 1) 0 rfl (staC n' t' (.slice A' N' C')) _ hrS' Try.underlying103 rfl HUZ.out ?_)))
      refine HSA.out.mono ?_
      rintro e w2 ⟨rfl, hbn⟩
      have HBB2 := Lib.hid (below_then HBB1.out hbn)
      have HA2 := Lib.hid (HA1.out.later hbn)
      have HB2 := Lib.hid (HB1.out.later hbn)
      have HZ2 := Lib.hid (HZ1.out.later hbn)
      clear hbn
      clear hrS'
      have h10 := (sg_mem HTO.out HA2.out).c10
      have h10' := (sg_mem HUO.out HB2.out).c10
      clear hrS
      have hrS2 := (sg_mem HTO.out HA2.out).rS
      go_wp2_with (first
        | ((with_reducible refine wpList_load_mid rfl 103 _ rfl w.heap.size 0 rfl (staC n t (.slice A N C)) _ hrS2 Try.underlying103 rfl HTZ.out ?_))
        | ((with_reducible refine wpList_build rfl 105 _ rfl #[(0, .agg (staC n t (.slice A N C)).toArray)] ?_ _ (HBS.out _) ?_); focus (simp [Act.eval, Act.put]; done))
        | (with_reducible refine stop_store 105 _ _ rfl ?_))
      refine StopD.go ?_
      obtain ⟨g6, hg6⟩ : ∃ g, w2.heap.size = g := ⟨_, rfl⟩
      have hbn : Below w2.heap.size w2 (w2.alloc (.cells #[.int .u8 0, .int .u8 0, .int .u8 0, .int .u8 0, .int .u8 0, .int .u8 0, .int .u8 0, .int .u8 0, .int .i64 0, .slice none 0 0, .slice none 0 0] 105)) := below_new w2 _
      have kt : Bk (w2.alloc (.cells #[.int .u8 0, .int .u8 0, .int .u8 0, .int .u8 0, .int .u8 0, .int .u8 0, .int .u8 0, .int .u8 0, .int .i64 0, .slice none 0 0, .slice none 0 0] 105)) g6 105 ([] ++ (sgC 0 zeroD (.slice none 0 0) (.slice none 0 0) ++ [])) := by rw [← hg6]; exact Bk.new' w2 _ #[.int .u8 0, .int .u8 0, .int .u8 0, .int .u8 0, .int .u8 0, .int .u8 0, .int .u8 0, .int .u8 0, .int .i64 0, .slice none 0 0, .slice none 0 0] rfl
      rw [hg6]
      refine wpList_store_part rfl 105 _ _ rfl g6 0 (.agg (sgC n t (.slice A N C) (.slice none 0 0)).toArray) (sgC n t (.slice A N C) (.slice none 0 0)) rfl rfl rfl 105 [] _ [] kt rfl (by rw [sgC_len HTO.out]; rfl) (rsg_info HTO.out) sg_one ?_
      intro w3 hp
      have hbn : Below w2.heap.size w2 w3 := hbn.grown hp.only hbn.size (fun q hq => by injection hq with hq; omega)
      have HG3 : Hid (Bk w3 g6 105 (sgC n t (.slice A N C) (.slice none 0 0))) := by show Bk _ _ _ _; have := hp.bk; simpa using this
      have HGW : Hid (w.heap.size + 2 < g6) := by show _ < _; rw [← hg6]; exact HZ2.out.lt
      clear hp kt hg6 hrS2 h10 h10'
      have HBB3 := Lib.hid (below_then HBB2.out hbn)
      have HA3 := Lib.hid (HA2.out.later hbn)
      have HB3 := Lib.hid (HB2.out.later hbn)
      have HZ3 := Lib.hid (HZ2.out.later hbn)
      clear hbn
      go_wp2_with fail
      go_loopw [7] (fun iv wr => ∃ (k d : Nat) (Q : Option Addr), k ≤ M ∧ iv = .int .i64 k ∧ Hid (wr.ownsRow w.heap.size 23 1 (.slice Q k d) k (((joinP qs qs').take k).map Pc.v)) ∧ Hid (Below w.heap.size w wr) ∧ Hid (Bk wr w.heap.size 105 (sgC n t (.slice A N C) (.slice B M D))) ∧ Hid (Bk wr (w.heap.size + 1) 105 (sgC n' t' (.slice A' N' C') (.slice B' M D'))) ∧ Hid (Bk wr (w.heap.size + 2) 105 (sgC 0 zeroD (.slice none 0 0) (.slice none 0 0))) ∧ Hid (Bk wr g6 105 (sgC n t (.slice A N C) (.slice Q k d)))) (fun iv _ => M - (intOf iv).toNat)
      case atStart => exact ⟨0, 0, none, Nat.zero_le _, rfl, World.ownsRow_nil _ _ _ _, HBB3.out, HA3.out, HB3.out, HZ3.out, HG3.out⟩
      case round =>
        obtain ⟨k, d, Q, hk, rfl, HQr, HBBr, HAr, HBr, HZr, HGr⟩ := hrel
        have h10 := (sg_mem HTO.out HAr.out).c10
        by_cases hlt : k < M
        · obtain ⟨b, o, p, rfl, hpk, _, hcc⟩ := pc_at (HQ0.out.later HBBr.out) hlt
          obtain ⟨b2, o2, q, rfl, hqk, _, hcc2⟩ := pc_at (HQ0'.out.later HBBr.out) hlt
          have hki : (k : Int) < M := by omega
          have h10' := (sg_mem HUO.out HBr.out).c10
          have HJP : Hid ((joinP qs qs')[k]? = some (pickP p q)) := joinP_get hpk hqk
          have hg10 := (sg_mem HTO.out HGr.out).c10
          clear hpk hqk
          by_cases hp0 : p.n = 0
          · have hp1 : ((p.n : Int) == 0) = true := by simp [hp0]
            have HPP : Hid (pickP p q = q) := by show _ = _; rw [pickP, if_pos hp0]
            rw [HPP.out] at HJP
            clear hp0
            go_wp2_with (with_reducible refine stop_bs 90 1 _ rfl ?_)
            refine StopD.go ?_
            (with_reducible refine wpList_bsliceG ?_ 90 1 _ rfl #[(0, .slice q.A q.n q.c)] ?_ 23 [Value.slice q.A q.n q.c] (bs_p1 q.A q.n q.c) ?_)
            · rfl
            · simp [Act.eval]
            intro q7 w7 _ hq7 hbn
            have HN7 : Hid (Sl w7 w7.heap.size 1 (some ⟨q7, 0, none⟩) 1 [Value.slice q.A q.n q.c]) := hq7.sl1 rfl (by omega)
            clear hq7
            have HBB7 := Lib.hid (below_then HBBr.out hbn)
            have HA7 := Lib.hid (HAr.out.later hbn)
            have HB7 := Lib.hid (HBr.out.later hbn)
            have HZ7 := Lib.hid (HZr.out.later hbn)
            have HG7 := Lib.hid (HGr.out.later hbn)
            have HQ7 := Lib.hid (HQr.out.later hbn)
            clear hbn
            clear hcc hcc2 h10 h10' hg10
            go_wp2_with (at_builtin; refine wpList_app _ rfl (.tmp 48) (.tmp 50) 90 rfl w.heap.size 23 iP (.slice none 0 0) 1 24 Try.underlying90 hPi hPz hPs hPb rfl (by decide) (.slice Q k d) k _ rfl HQ7.out _ _ 1 1 [Value.slice q.A q.n q.c] rfl HN7.out (by simp [Value.oneCell']) (by unfold maxLen; omega) (by omega) HBB7.out.size ?_; intro v8 w8 hown hg hat; refine stop_here ?_)
            refine StopD.go ?_
            obtain ⟨Q8, d8, rfl⟩ := own_form hown
            have HQ8 : Hid (w8.ownsRow w.heap.size 23 1 (.slice Q8 (k + 1) d8) (k + 1) (((joinP qs qs').take (k + 1)).map Pc.v)) := by show World.ownsRow _ _ _ _ _ _ _; rw [take_snoc HJP.out, List.map_append]; exact hown
            have HA8 := Lib.hid (HA7.out.grown hg (Ne.symm (own_bk_ne HQ7.out HA7.out (by decide)))); have HB8 := Lib.hid (HB7.out.grown hg (Ne.symm (own_bk_ne HQ7.out HB7.out (by decide)))); have HZ8 := Lib.hid (HZ7.out.grown hg (Ne.symm (own_bk_ne HQ7.out HZ7.out (by decide)))); have HG8 := Lib.hid (HG7.out.grown hg (Ne.symm (own_bk_ne HQ7.out HG7.out (by decide))))
            have HBB8 := Lib.hid (grown_below HBB7.out HQ7.out hg (Nat.le_refl _) HBB7.out.size)
            clear hown hg hat
            go_wp2_with (with_reducible refine stop_store 90 _ _ rfl ?_)
            refine StopD.go ?_
            rw [sg_preQ] at HG8
            refine wpList_store_part rfl 90 _ _ rfl g6 10 (.slice Q8 (k + 1) d8) [.slice Q8 (k + 1) d8] rfl rfl rfl 105 (dl t ++ [.int .i64 n, .slice A N C]) [.slice Q k d] [] HG8.out (HPQ.out _) rfl (by kernel_rfl) (by simp [Value.oneCell']) ?_
            intro w9 hp9
            have HG9 : Hid (Bk w9 g6 105 (sgC n t (.slice A N C) (.slice Q8 (k + 1) d8))) := by show Bk _ _ _ _; rw [sg_preQ]; exact hp9.bk
            have HA9 := Lib.hid (HA8.out.grown hp9.only (by intro h; injection h with h; have := HGW.out; omega)); have HB9 := Lib.hid (HB8.out.grown hp9.only (by intro h; injection h with h; have := HGW.out; omega)); have HZ9 := Lib.hid (HZ8.out.grown hp9.only (by intro h; injection h with h; have := HGW.out; omega))
            have HQ9 := Lib.hid (own_only HQ8.out hp9.only (own_bk_ne HQ8.out HG8.out (by decide)))
            have HBB9 := Lib.hid (below_only HBB8.out hp9.only HBB8.out.size (by have := HGW.out; omega))
            clear hp9
            go_wp2_with fail
            go_roundw
            case rel => exact ⟨k + 1, d8, Q8, by omega, by go_num, HQ9.out, HBB9.out, HA9.out, HB9.out, HZ9.out, HG9.out⟩
            case measure => simp [intOf]; omega
          · have hp1 : ((p.n : Int) == 0) = false := by simp [hp0]
            have HPP : Hid (pickP p q = p) := by show _ = _; rw [pickP, if_neg hp0]
            rw [HPP.out] at HJP
            clear hp0
            go_wp2_with (with_reducible refine stop_bs 90 1 _ rfl ?_)
            refine StopD.go ?_
            (with_reducible refine wpList_bsliceG ?_ 90 1 _ rfl #[(0, .slice p.A p.n p.c)] ?_ 23 [Value.slice p.A p.n p.c] (bs_p1 p.A p.n p.c) ?_)
            · rfl
            · simp [Act.eval]
            intro q7 w7 _ hq7 hbn
            have HN7 : Hid (Sl w7 w7.heap.size 1 (some ⟨q7, 0, none⟩) 1 [Value.slice p.A p.n p.c]) := hq7.sl1 rfl (by omega)
            clear hq7
            have HBB7 := Lib.hid (below_then HBBr.out hbn)
            have HA7 := Lib.hid (HAr.out.later hbn)
            have HB7 := Lib.hid (HBr.out.later hbn)
            have HZ7 := Lib.hid (HZr.out.later hbn)
            have HG7 := Lib.hid (HGr.out.later hbn)
            have HQ7 := Lib.hid (HQr.out.later hbn)
            clear hbn
            clear hcc hcc2 h10 h10' hg10
            go_wp2_with (at_builtin; refine wpList_app _ rfl (.tmp 48) (.tmp 50) 90 rfl w.heap.size 23 iP (.slice none 0 0) 1 24 Try.underlying90 hPi hPz hPs hPb rfl (by decide) (.slice Q k d) k _ rfl HQ7.out _ _ 1 1 [Value.slice p.A p.n p.c] rfl HN7.out (by simp [Value.oneCell']) (by unfold maxLen; omega) (by omega) HBB7.out.size ?_; intro v8 w8 hown hg hat; refine stop_here ?_)
            refine StopD.go ?_
            obtain ⟨Q8, d8, rfl⟩ := own_form hown
            have HQ8 : Hid (w8.ownsRow w.heap.size 23 1 (.slice Q8 (k + 1) d8) (k + 1) (((joinP qs qs').take (k + 1)).map Pc.v)) := by show World.ownsRow _ _ _ _ _ _ _; rw [take_snoc HJP.out, List.map_append]; exact hown
            have HA8 := Lib.hid (HA7.out.grown hg (Ne.symm (own_bk_ne HQ7.out HA7.out (by decide)))); have HB8 := Lib.hid (HB7.out.grown hg (Ne.symm (own_bk_ne HQ7.out HB7.out (by decide)))); have HZ8 := Lib.hid (HZ7.out.grown hg (Ne.symm (own_bk_ne HQ7.out HZ7.out (by decide)))); have HG8 := Lib.hid (HG7.out.grown hg (Ne.symm (own_bk_ne HQ7.out HG7.out (by decide))))
            have HBB8 := Lib.hid (grown_below HBB7.out HQ7.out hg (Nat.le_refl _) HBB7.out.size)
            clear hown hg hat
            go_wp2_with (with_reducible refine stop_store 90 _ _ rfl ?_)
            refine StopD.go ?_
            rw [sg_preQ] at HG8
            refine wpList_store_part rfl 90 _ _ rfl g6 10 (.slice Q8 (k + 1) d8) [.slice Q8 (k + 1) d8] rfl rfl rfl 105 (dl t ++ [.int .i64 n, .slice A N C]) [.slice Q k d] [] HG8.out (HPQ.out _) rfl (by kernel_rfl) (by simp [Value.oneCell']) ?_
            intro w9 hp9
            have HG9 : Hid (Bk w9 g6 105 (sgC n t (.slice A N C) (.slice Q8 (k + 1) d8))) := by show Bk _ _ _ _; rw [sg_preQ]; exact hp9.bk
            have HA9 := Lib.hid (HA8.out.grown hp9.only (by intro h; injection h with h; have := HGW.out; omega)); have HB9 := Lib.hid (HB8.out.grown hp9.only (by intro h; injection h with h; have := HGW.out; omega)); have HZ9 := Lib.hid (HZ8.out.grown hp9.only (by intro h; injection h with h; have := HGW.out; omega))
            have HQ9 := Lib.hid (own_only HQ8.out hp9.only (own_bk_ne HQ8.out HG8.out (by decide)))
            have HBB9 := Lib.hid (below_only HBB8.out hp9.only HBB8.out.size (by have := HGW.out; omega))
            clear hp9
            go_wp2_with fail
            go_roundw
            case rel => exact ⟨k + 1, d8, Q8, by omega, by go_num, HQ9.out, HBB9.out, HA9.out, HB9.out, HZ9.out, HG9.out⟩
            case measure => simp [intOf]; omega
        · have hkk : M = k := by omega
          subst hkk
          have HLL : Hid ((joinP qs qs').take M = joinP qs qs') := by
            show _ = _
            rw [List.take_of_length_le (by rw [joinP_len, HQL.out, HQL'.out]; omega)]
          rw [HLL.out] at HQr
          go_wp2_with (first
            | ((with_reducible refine wpList_load_bk rfl 105 _ rfl g6 rfl (sgC n t (.slice A N C) (.slice Q M d)) 105 HGr.out _ Try.underlying105 rfl (rsg_info HTO.out) ?_))
            | (with_reducible refine stop_store 105 _ _ rfl ?_))
          refine StopD.go ?_
          refine wpList_store_part rfl 105 _ _ rfl (w.heap.size + 2) 0 (.agg (sgC n t (.slice A N C) (.slice Q M d)).toArray) (sgC n t (.slice A N C) (.slice Q M d)) rfl rfl rfl 105 [] _ [] (by simpa using HZr.out) rfl (by rw [sgC_len HTO.out]; rfl) (rsg_info HTO.out) sg_one ?_
          intro w9 hp
          have HZ9 : Hid (Bk w9 (w.heap.size + 2) 105 (sgC n t (.slice A N C) (.slice Q M d))) := by show Bk _ _ _ _; have := hp.bk; simpa using this
          have HBB9 := Lib.hid (below_only HBBr.out hp.only HBBr.out.size (by omega))
          have HQ9 := Lib.hid (own_only HQr.out hp.only (own_bk_ne HQr.out HZr.out (by decide)))
          clear hp
          go_wp2_with fail
          refine bodyPost_ret (rjoin_ret HTO.out HZ9.out _ rfl rfl) rfl ?_
          exact ⟨A, Q, N, C, M, d, joinP qs qs', rfl, HS0.out.later HBB9.out, Sl.of_own HQ9.out, (joinP_ok HP0.out HP0'.out).later HBB9.out, joinP_bs HP0.out, HBB9.out⟩
    · rw [if_neg hnm]
      have hne : ((M : Int) != (M' : Int)) = true := by simp; omega
      go_enter Try.func54, Try.ntmps54
      go_upto_region 1 with fail
      rw [HW.out]
      go_wp2_with (first
        | ((with_reducible refine wpList_load_mid rfl 103 _ rfl w.heap.size 0 rfl (staC n t (.slice A N C)) _ hrS Try.underlying103 rfl HTZ.out ?_))
        | ((with_reducible refine wpList_load_mid rfl 103 _ rfl (w.heap.size + 1) 0 rfl (staC n' t' (.slice A' N' C')) _ hrS' Try.underlying103 rfl HUZ.out ?_)))
      refine HSA.out.mono ?_
      rintro e w2 ⟨rfl, hbn⟩
      have HBB2 := Lib.hid (below_then HBB1.out hbn)
      have HA2 := Lib.hid (HA1.out.later hbn)
      have HB2 := Lib.hid (HB1.out.later hbn)
      have HZ2 := Lib.hid (HZ1.out.later hbn)
      clear hbn
      clear hrS'
      have h10 := (sg_mem HTO.out HA2.out).c10
      have h10' := (sg_mem HUO.out HB2.out).c10
      clear hrS
      go_wp2_with (first
        | ((with_reducible refine wpList_build rfl 105 _ rfl #[] ?_ _ (build_rsg0 _) ?_); focus (simp [Act.eval]; done))
        | (with_reducible refine stop_store 105 _ _ rfl ?_))
      refine StopD.go ?_
      refine wpList_store_part rfl 105 _ _ rfl (w.heap.size + 2) 0 (.agg (sgC 0 zeroD (.slice none 0 0) (.slice none 0 0)).toArray) (sgC 0 zeroD (.slice none 0 0) (.slice none 0 0)) rfl rfl rfl 105 [] _ [] (by simpa using HZ2.out) rfl rfl (rsg_info zero_ok) sg_one ?_
      intro w9 hp
      have HZ9 : Hid (Bk w9 (w.heap.size + 2) 105 (sgC 0 zeroD (.slice none 0 0) (.slice none 0 0))) := by show Bk _ _ _ _; have := hp.bk; simpa using this
      have HBB9 := Lib.hid (below_only HBB2.out hp.only HBB2.out.size (by omega))
      clear hp
      go_wp2_with fail
      refine bodyPost_ret (rjoin_ret zero_ok HZ9.out _ rfl rfl) rfl ?_
      exact ⟨none, none, 0, 0, 0, 0, [], rfl, Sl.nil, Sl.nil, PcsOk.nil _, rfl, HBB9.out⟩
end Go.Proofs.Ythibihjblodfmaa
