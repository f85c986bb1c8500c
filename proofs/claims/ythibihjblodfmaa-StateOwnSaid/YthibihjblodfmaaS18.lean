/- Two signed states together: the program's and the document's. -/
import Derived.Test.YthibihjblodfmaaS15
import Derived.Test.YthibihjblodfmaaRL
namespace Go.Proofs.Ythibihjblodfmaa
open Go.RowKit Go.Maps

def pickL (a b : List Int) : List Int := if a.length = 0 then b else a
def pickP (p q : Pc) : Pc := if p.n = 0 then q else p
def joinP (ps qs : List Pc) : List Pc := List.zipWith pickP ps qs
/-- What two come to: table, number, position, signatures, error. -/
structure Jn where
  t : List Int
  n : Int
  ps : List Int
  L : List (List Int)
  e : Int
def joinR (t t' : List Int) (n n' : Int) (ps ps' : List Int) (L L' : List (List Int)) : Jn :=
  if sameS t t' n n' ps ps' = true then (if L.length = L'.length then ⟨t, n, ps, List.zipWith pickL L L', 0⟩ else ⟨zeroD, 0, [], [], 3⟩) else ⟨zeroD, 0, [], [], 11⟩
theorem joinP_bs {w : World} : ∀ {ps qs : List Pc}, PcsOk w ps → bsP (joinP ps qs) = List.zipWith pickL (bsP ps) (bsP qs)
  | [], _, _ => by simp [joinP, bsP]
  | _ :: _, [], _ => by simp [joinP, bsP]
  | p :: ps, q :: qs, h => by
    have ih := joinP_bs (ps := ps) (qs := qs) (fun x hx => h x (by simp [hx]))
    have hl := (h p (by simp)).length
    unfold joinP bsP at ih ⊢
    simp only [List.zipWith_cons_cons, List.map_cons, ih]
    congr 1
    unfold pickP pickL
    rw [hl]; split <;> rfl
theorem zip_take {α β γ : Type} (f : α → β → γ) {xs : List α} {ys : List β} {k : Nat} {x : α} {y : β} (hx : xs[k]? = some x) (hy : ys[k]? = some y) : (List.zipWith f xs ys).take (k + 1) = (List.zipWith f xs ys).take k ++ [f x y] :=
  take_snoc (by rw [List.getElem?_zipWith, hx, hy])
theorem joinP_get {ps qs : List Pc} {k : Nat} {p q : Pc} (hx : ps[k]? = some p) (hy : qs[k]? = some q) : (joinP ps qs)[k]? = some (pickP p q) := by rw [joinP, List.getElem?_zipWith, hx, hy]
theorem joinP_len (ps qs : List Pc) : (joinP ps qs).length = min ps.length qs.length := by simp [joinP]
/-- What the program's hands back: all of it its own. -/
def RetJ (J : Jn) (w : World) (e : Ending) (w' : World) : Prop :=
  ∃ (P Q : Option Addr) (N c M d : Nat) (rs : List Pc), e = .returned (.tuple #[.agg (sgC J.n J.t (.slice P N c) (.slice Q M d)).toArray, .int .i64 J.e]) ∧ w'.ownsRow w.heap.size 5 1 (.slice P N c) N (J.ps.map (.int .u8)) ∧ w'.ownsRow w.heap.size 23 1 (.slice Q M d) M (rs.map Pc.v) ∧ PcsOwn w' w.heap.size rs ∧ bsP rs = J.L ∧ Below w.heap.size w w'
theorem build_sg0 (w : World) : (Instr.build 101 #[]).run Try.prog w = .ok (.agg (sgC 0 zeroD (.slice none 0 0) (.slice none 0 0)).toArray) w := by kernel_rfl
theorem build_rsg0 (w : World) : (Instr.build 105 #[]).run Try.prog w = .ok (.agg (sgC 0 zeroD (.slice none 0 0) (.slice none 0 0)).toArray) w := by kernel_rfl
theorem build_sg1 {n : Int} {t : List Int} (ht : DgOk t) (A : Option Addr) (N C : Nat) (w : World) : (Instr.build 101 #[(0, .agg (staC n t (.slice A N C)).toArray)]).run Try.prog w = .ok (.agg (sgC n t (.slice A N C) (.slice none 0 0)).toArray) w := by
  obtain ⟨x0, x1, x2, x3, x4, x5, x6, x7, rfl⟩ := list8 t ht.len
  kernel_rfl
theorem build_rsg1 {n : Int} {t : List Int} (ht : DgOk t) (A : Option Addr) (N C : Nat) (w : World) : (Instr.build 105 #[(0, .agg (staC n t (.slice A N C)).toArray)]).run Try.prog w = .ok (.agg (sgC n t (.slice A N C) (.slice none 0 0)).toArray) w := by
  obtain ⟨x0, x1, x2, x3, x4, x5, x6, x7, rfl⟩ := list8 t ht.len
  kernel_rfl
theorem join_ret {w : World} {g : Nat} {n e : Int} {t : List Int} {p q : Value} (ht : DgOk t) (h : Bk w g 101 (sgC n t p q)) (tmps : Array Value) (h2 : tmps.getD 4 undef = .pointer (some ⟨g, 0, none⟩)) (h3 : tmps.getD 5 undef = .int .i64 e) :
    (results Try.f53 tmps).run Try.prog w = .ok (.tuple #[.agg (sgC n t p q).toArray, .int .i64 e]) w := by
  have r1 : w.rangeAt g 0 (sgC n t p q) := Bk.range (pre := []) (post := []) (by simpa using h) rfl
  have l1 := run_loadVar_mid (P := Try.prog) w g 0 101 (sgC n t p q) _ r1 Try.underlying101 rfl (sg_info ht)
  rw [Array.getD_eq_getD_getElem?] at h2 h3
  simp [results, Try.results53, h2, h3, asAddr, l1]
theorem rjoin_ret {w : World} {g : Nat} {n e : Int} {t : List Int} {p q : Value} (ht : DgOk t) (h : Bk w g 105 (sgC n t p q)) (tmps : Array Value) (h2 : tmps.getD 4 undef = .pointer (some ⟨g, 0, none⟩)) (h3 : tmps.getD 5 undef = .int .i64 e) :
    (results Try.f54 tmps).run Try.prog w = .ok (.tuple #[.agg (sgC n t p q).toArray, .int .i64 e]) w := by
  have r1 : w.rangeAt g 0 (sgC n t p q) := Bk.range (pre := []) (post := []) (by simpa using h) rfl
  have l1 := run_loadVar_mid (P := Try.prog) w g 0 105 (sgC n t p q) _ r1 Try.underlying105 rfl (rsg_info ht)
  rw [Array.getD_eq_getD_getElem?] at h2 h3
  simp [results, Try.results54, h2, h3, asAddr, l1]
set_option maxRecDepth 20000 in
set_option maxHeartbeats 8000000 in
theorem join2_any (w : World) (t t' : List Int) (ht : DgOk t) (ht' : DgOk t') (n n' : Int) (A A' B B' : Option Addr) (N C N' C' M D M' D' : Nat) (ps ps' : List Int) (qs qs' : List Pc)
    (hs : Sl w w.heap.size 1 A N (ps.map (.int .u8))) (hs' : Sl w w.heap.size 1 A' N' (ps'.map (.int .u8))) (hbo : ByOk ps) (hbo' : ByOk ps') (hq : Sl w w.heap.size 1 B M (qs.map Pc.v)) (hq' : Sl w w.heap.size 1 B' M' (qs'.map Pc.v)) (hp : PcsOk w qs) (hp' : PcsOk w qs')
    (hN : N ≤ 100000) (hM : M ≤ 100000) (hqn : ∀ p ∈ qs, p.n ≤ 100000) (hqn' : ∀ p ∈ qs', p.n ≤ 100000) :
    Calls Try.prog 53 #[.agg (sgC n t (.slice A N C) (.slice B M D)).toArray, .agg (sgC n' t' (.slice A' N' C') (.slice B' M' D')).toArray] w (RetJ (joinR t t' n n' ps ps' (bsP qs) (bsP qs')) w) := by
  have HTZ : Hid ((Try.prog.info? 31).map (·.size) = some (staC n t (.slice A N C)).length) := by show _ = _; rw [staC_len ht]; exact st_size
  have HUZ : Hid ((Try.prog.info? 31).map (·.size) = some (staC n' t' (.slice A' N' C')).length) := by show _ = _; rw [staC_len ht']; exact st_size
  obtain ⟨X, hX⟩ : ∃ X, (sgC n t (.slice A N C) (.slice B M D)).toArray = X := ⟨_, rfl⟩
  obtain ⟨Y, hY⟩ : ∃ Y, (sgC n' t' (.slice A' N' C') (.slice B' M' D')).toArray = Y := ⟨_, rfl⟩
  obtain ⟨w1, hw1⟩ : ∃ w1, ((w.alloc (.cells X 101)).alloc (.cells Y 101)).alloc (.cells #[.int .u8 0, .int .u8 0, .int .u8 0, .int .u8 0, .int .u8 0, .int .u8 0, .int .u8 0, .int .u8 0, .int .i64 0, .slice none 0 0, .slice none 0 0] 101) = w1 := ⟨_, rfl⟩
  have hb1 : Below w.heap.size w w1 := hw1 ▸ ((below_new w _).alloc (by simp) _).alloc (by simp <;> omega) _
  have kx : Bk w1 w.heap.size 101 (sgC n t (.slice A N C) (.slice B M D)) := hw1 ▸ ((Bk.new' w _ X (by rw [← hX])).alloc _).alloc _
  have ky : Bk w1 (w.heap.size + 1) 101 (sgC n' t' (.slice A' N' C') (.slice B' M' D')) := hw1 ▸ (Bk.at_ _ _ Y (by simp) (by rw [← hY])).alloc _
  have kz : Bk w1 (w.heap.size + 2) 101 (sgC 0 zeroD (.slice none 0 0) (.slice none 0 0)) := hw1 ▸ Bk.at_ _ _ _ (by simp) rfl
  have HW := Lib.hid hw1; have HBB1 := Lib.hid hb1; have HA1 := Lib.hid kx; have HB1 := Lib.hid ky; have HZ1 := Lib.hid kz; have HTO := Lib.hid ht; have HUO := Lib.hid ht'
  have HS0 := Lib.hid hs; have HS0' := Lib.hid hs'; have HQ0 := Lib.hid hq; have HQ0' := Lib.hid hq'; have HP0 := Lib.hid hp; have HP0' := Lib.hid hp'; have HBO := Lib.hid hbo; have HBO' := Lib.hid hbo'
  have HQL := Lib.hid hq.length; have HQL' := Lib.hid hq'.length
  rw [hX, hY]
  clear hX hY hw1 hb1 kx ky kz hs hs' hq hq' hp hp' hbo hbo'
  have HSA := Lib.hid (stSame_any w1 n n' t t' ht ht' A A' N N' C C' ps ps' HBO.out HBO'.out (HS0.out.later HBB1.out) (HS0'.out.later HBB1.out))
  unfold joinR
  rw [bsP_len, bsP_len, HQL.out, HQL'.out]
  obtain ⟨b1, hb1⟩ : ∃ b, sameS t t' n n' ps ps' = b := ⟨_, rfl⟩
  rw [hb1] at HSA ⊢
  have hrS := (sg_mem ht HA1.out).rS
  have hrS' := (sg_mem ht' HB1.out).rS
  have HPL : Hid ((dl t ++ [Value.int .i64 n]).length = 9) := by show _ = _; simp [dl_len, ht.len]
  have HPQ : Hid (∀ v : Value, (dl t ++ [Value.int .i64 n, v]).length = 10) := by intro v; simp [dl_len, ht.len]
  have HBS := Lib.hid (fun W => build_sg1 (n := n) ht A N C W)
  obtain ⟨iP, hPi, hPz, hPs, hPb⟩ := info_parts Try.infoSlB
  have HQN := Lib.hid hqn; have HQN' := Lib.hid hqn'
  clear hb1 ht ht' hqn hqn'
  cases b1
  · rw [if_neg (by simp)]
    go_enter Try.func53, Try.ntmps53
    go_upto_region 1 with fail
    rw [HW.out]
    go_wp2_with (first
      | ((with_reducible refine wpList_load_mid rfl 31 _ rfl w.heap.size 0 rfl (staC n t (.slice A N C)) _ hrS Try.underlying31 rfl HTZ.out ?_))
      | ((with_reducible refine wpList_load_mid rfl 31 _ rfl (w.heap.size + 1) 0 rfl (staC n' t' (.slice A' N' C')) _ hrS' Try.underlying31 rfl HUZ.out ?_)))
    refine HSA.out.mono ?_
    rintro e w2 ⟨rfl, hbn⟩
    have HBB2 := Lib.hid (below_then HBB1.out hbn)
    have HA2 := Lib.hid (HA1.out.later hbn)
    have HB2 := Lib.hid (HB1.out.later hbn)
    have HZ2 := Lib.hid (HZ1.out.later hbn)
    clear hbn
    clear hrS'
    have h10 := (sg_mem HTO.out HA2.out).c10
    have h10' := (sg_mem HUO.out HB2.out).c10
    clear hrS
    go_wp2_with (first
      | ((with_reducible refine wpList_build rfl 101 _ rfl #[] ?_ _ (build_sg0 _) ?_); focus (simp [Act.eval]; done))
      | (with_reducible refine stop_store 101 _ _ rfl ?_))
    refine StopD.go ?_
    refine wpList_store_part rfl 101 _ _ rfl (w.heap.size + 2) 0 (.agg (sgC 0 zeroD (.slice none 0 0) (.slice none 0 0)).toArray) (sgC 0 zeroD (.slice none 0 0) (.slice none 0 0)) rfl rfl rfl 101 [] _ [] (by simpa using HZ2.out) rfl rfl (sg_info zero_ok) sg_one ?_
    intro w9 hp
    have HZ9 : Hid (Bk w9 (w.heap.size + 2) 101 (sgC 0 zeroD (.slice none 0 0) (.slice none 0 0))) := by show Bk _ _ _ _; have := hp.bk; simpa using this
    have HBB9 := Lib.hid (below_only HBB2.out hp.only HBB2.out.size (by omega))
    clear hp
    go_wp2_with fail
    refine bodyPost_ret (join_ret zero_ok HZ9.out _ rfl rfl) rfl ?_
    exact ⟨none, none, 0, 0, 0, 0, [], rfl, World.ownsRow_nil _ _ _ _, World.ownsRow_nil _ _ _ _, PcsOwn.nil_ _ _, rfl, HBB9.out⟩
  · rw [if_pos rfl]
    by_cases hnm : M = M'
    · subst hnm
      rw [if_pos rfl]
      have hne : ((M : Int) != (M : Int)) = false := by simp
      go_enter Try.func53, Try.ntmps53
      go_upto_region 1 with fail
      rw [HW.out]
      go_wp2_with (first
        | ((with_reducible refine wpList_load_mid rfl 31 _ rfl w.heap.size 0 rfl (staC n t (.slice A N C)) _ hrS Try.underlying31 rfl HTZ.out ?_))
        | ((with_reducible refine wpList_load_mid rfl 31 _ rfl (w.heap.size + 1) 0 rfl (staC n' t' (.slice A' N' C')) _ hrS' Try.underlying31 rfl HUZ.out ?_)))
      refine HSA.out.mono ?_
      rintro e w2 ⟨rfl, hbn⟩
      have HBB2 := Lib.hid (below_then HBB1.out hbn)
      have HA2 := Lib.hid (HA1.out.later hbn)
      have HB2 := Lib.hid (HB1.out.later hbn)
      have HZ2 := Lib.hid (HZ1.out.later hbn)
      clear hbn
      clear hrS'
      have h10 := (sg_mem HTO.out HA2.out).c10
      have h10' := (sg_mem HUO.out HB2.out).c10
      clear hrS
      have hrS2 := (sg_mem HTO.out HA2.out).rS
      go_wp2_with (first
        | ((with_reducible refine wpList_load_mid rfl 31 _ rfl w.heap.size 0 rfl (staC n t (.slice A N C)) _ hrS2 Try.underlying31 rfl HTZ.out ?_))
        | ((with_reducible refine wpList_build rfl 101 _ rfl #[(0, .agg (staC n t (.slice A N C)).toArray)] ?_ _ (HBS.out _) ?_); focus (simp [Act.eval, Act.put]; done))
        | (with_reducible refine stop_store 101 _ _ rfl ?_))
      refine StopD.go ?_
      obtain ⟨g6, hg6⟩ : ∃ g, w2.heap.size = g := ⟨_, rfl⟩
      have hbn : Below w2.heap.size w2 (w2.alloc (.cells #[.int .u8 0, .int .u8 0, .int .u8 0, .int .u8 0, .int .u8 0, .int .u8 0, .int .u8 0, .int .u8 0, .int .i64 0, .slice none 0 0, .slice none 0 0] 101)) := below_new w2 _
      have kt : Bk (w2.alloc (.cells #[.int .u8 0, .int .u8 0, .int .u8 0, .int .u8 0, .int .u8 0, .int .u8 0, .int .u8 0, .int .u8 0, .int .i64 0, .slice none 0 0, .slice none 0 0] 101)) g6 101 ([] ++ (sgC 0 zeroD (.slice none 0 0) (.slice none 0 0) ++ [])) := by rw [← hg6]; exact Bk.new' w2 _ #[.int .u8 0, .int .u8 0, .int .u8 0, .int .u8 0, .int .u8 0, .int .u8 0, .int .u8 0, .int .u8 0, .int .i64 0, .slice none 0 0, .slice none 0 0] rfl
      rw [hg6]
      refine wpList_store_part rfl 101 _ _ rfl g6 0 (.agg (sgC n t (.slice A N C) (.slice none 0 0)).toArray) (sgC n t (.slice A N C) (.slice none 0 0)) rfl rfl rfl 101 [] _ [] kt rfl (by rw [sgC_len HTO.out]; rfl) (sg_info HTO.out) sg_one ?_
      intro w3 hp
      have hbn : Below w2.heap.size w2 w3 := hbn.grown hp.only hbn.size (fun q hq => by injection hq with hq; omega)
      have HG3 : Hid (Bk w3 g6 101 (sgC n t (.slice A N C) (.slice none 0 0))) := by show Bk _ _ _ _; have := hp.bk; simpa using this
      have HGW : Hid (w.heap.size + 2 < g6) := by show _ < _; rw [← hg6]; exact HZ2.out.lt
      clear hp kt hg6 hrS2 h10 h10'
      have HBB3 := Lib.hid (below_then HBB2.out hbn)
      have HA3 := Lib.hid (HA2.out.later hbn)
      have HB3 := Lib.hid (HB2.out.later hbn)
      have HZ3 := Lib.hid (HZ2.out.later hbn)
      clear hbn
      have hc9 := (sg_mem HTO.out HA3.out).c9
      go_wp2_with fail
      refine (bclone_any w3 A N C ps (HS0.out.later HBB3.out) (by omega)).mono ?_
      rintro e w4 ⟨v4, rfl, hown⟩
      have hbn : Below w3.heap.size w3 w4 := hown.2
      have hnl := (HS0.out).length
      obtain ⟨P4, c4, rfl⟩ := hown.form
      have HPO4 := Lib.hid (own_base hown.1 HBB3.out.size)
      rw [hnl] at HPO4 ⊢
      clear hown hc9
      have HBB4 := Lib.hid (below_then HBB3.out hbn)
      have HA4 := Lib.hid (HA3.out.later hbn)
      have HB4 := Lib.hid (HB3.out.later hbn)
      have HZ4 := Lib.hid (HZ3.out.later hbn)
      have HG4 := Lib.hid (HG3.out.later hbn)
      clear hbn
      go_wp2_with (with_reducible refine stop_store 23 _ _ rfl ?_)
      refine StopD.go ?_
      rw [sg_preP] at HG4
      refine wpList_store_part rfl 23 _ _ rfl g6 9 (.slice P4 N c4) [.slice P4 N c4] rfl rfl rfl 101 (dl t ++ [.int .i64 n]) [.slice A N C] [.slice none 0 0] HG4.out HPL.out rfl (by kernel_rfl) (by simp [Value.oneCell']) ?_
      intro w5 hp
      have HG5 : Hid (Bk w5 g6 101 (sgC n t (.slice P4 N c4) (.slice none 0 0))) := by show Bk _ _ _ _; rw [sg_preP]; exact hp.bk
      have HA5 := Lib.hid (HA4.out.grown hp.only (by intro h; injection h with h; have := HGW.out; omega)); have HB5 := Lib.hid (HB4.out.grown hp.only (by intro h; injection h with h; have := HGW.out; omega)); have HZ5 := Lib.hid (HZ4.out.grown hp.only (by intro h; injection h with h; have := HGW.out; omega))
      have HPO5 := Lib.hid (own_only HPO4.out hp.only (own_bk_ne HPO4.out HG4.out (by decide)))
      have HBB5 := Lib.hid (below_only HBB4.out hp.only HBB4.out.size (by have := HGW.out; omega))
      clear hp HG4
      have h10 := (sg_mem HTO.out HA5.out).c10
      go_wp2_with fail
      clear h10
      go_loopw [36] (fun iv wr => ∃ (k d : Nat) (Q : Option Addr) (rs : List Pc), k ≤ M ∧ iv = .int .i64 k ∧ Hid (bsP rs = (bsP (joinP qs qs')).take k) ∧ Hid (wr.ownsRow w.heap.size 23 1 (.slice Q k d) k (rs.map Pc.v)) ∧ Hid (PcsOwn wr w.heap.size rs) ∧ Hid (wr.ownsRow w.heap.size 5 1 (.slice P4 N c4) N (ps.map (.int .u8))) ∧ Hid (Below w.heap.size w wr) ∧ Hid (Bk wr w.heap.size 101 (sgC n t (.slice A N C) (.slice B M D))) ∧ Hid (Bk wr (w.heap.size + 1) 101 (sgC n' t' (.slice A' N' C') (.slice B' M D'))) ∧ Hid (Bk wr (w.heap.size + 2) 101 (sgC 0 zeroD (.slice none 0 0) (.slice none 0 0))) ∧ Hid (Bk wr g6 101 (sgC n t (.slice P4 N c4) (.slice Q k d)))) (fun iv _ => M - (intOf iv).toNat)
      case atStart => exact ⟨0, 0, none, [], Nat.zero_le _, rfl, rfl, World.ownsRow_nil _ _ _ _, PcsOwn.nil_ _ _, HPO5.out, HBB5.out, HA5.out, HB5.out, HZ5.out, HG5.out⟩
      case round =>
        obtain ⟨k, d, Q, rs, hk, rfl, HL, HQr, HRr, HPOr, HBBr, HAr, HBr, HZr, HGr⟩ := hrel
        by_cases hlt : k < M
        · obtain ⟨b, o, p, rfl, hpk, _, hcc⟩ := pc_at (HQ0.out.later HBBr.out) hlt
          obtain ⟨b2, o2, q, rfl, hqk, _, hcc2⟩ := pc_at (HQ0'.out.later HBBr.out) hlt
          have hki : (k : Int) < M := by omega
          have h10' := (sg_mem HUO.out HBr.out).c10
          have HJP : Hid ((joinP qs qs')[k]? = some (pickP p q)) := joinP_get hpk hqk
          have HPK := Lib.hid (HP0.out p (List.mem_of_getElem? hpk)); have HQK := Lib.hid (HP0'.out q (List.mem_of_getElem? hqk))
          have hpn := HQN.out p (List.mem_of_getElem? hpk); have hqn := HQN'.out q (List.mem_of_getElem? hqk)
          clear hpk hqk
          by_cases hp0 : p.n = 0
          · have hp1 : ((p.n : Int) == 0) = true := by simp [hp0]
            have HPP : Hid (pickP p q = q) := by show _ = _; rw [pickP, if_pos hp0]
            have HSP := HQK
            rw [HPP.out] at HJP
            clear hp0
            go_wp2_with fail
            clear hcc hcc2 h10' hp1
            refine wp_region_L [(5, fun w' => Bk w' g6 101 (sgC n t (.slice P4 N c4) (.slice Q k d)))] (by kernel_rfl) ⟨fun _ => Bk.drew HGr.out, trivial⟩ (fun hHeld => ?_)
            refine wpAnyL_take0 (i := 0) (v := ?_) rfl (by kernel_rfl) (by kernel_rfl) (by kernel_rfl) (by rfl) (fun _ _ _ h => h) (Or.inl ⟨by rfl, ?_⟩) hHeld ?_
            rotate_left
            · intro w _
              go_simp
              try with_reducible rfl
            clear hHeld
            intro hHeld
            try simp only [Act.put, List.setIfInBounds_toArray, List.set_cons_zero, List.set_cons_succ, List.getElem_toArray, List.getElem_cons_zero]
            refine wpAnyL_take0 (i := 2) (v := ?_) rfl (by kernel_rfl) (by kernel_rfl) (by kernel_rfl) (by rfl) (fun _ _ _ h => h) (Or.inl ⟨by rfl, ?_⟩) hHeld ?_
            rotate_left
            · intro w _
              go_simp
              try with_reducible rfl
            clear hHeld
            intro hHeld
            try simp only [Act.put, List.setIfInBounds_toArray, List.set_cons_zero, List.set_cons_succ, List.getElem_toArray, List.getElem_cons_zero, List.getElem_cons_succ]
            refine wpAnyL_take (i := 1) 0 rfl rfl (by kernel_rfl) (by kernel_rfl) (by kernel_rfl) (by kernel_rfl) (by kernel_rfl) (by rfl) (fun _ _ _ h => h) (v := ?_) (Or.inl ⟨by rfl, ?_⟩) hHeld ?_
            rotate_left
            · intro w hSw
              have hcell := (sg_mem HTO.out hSw).c10
              clear hSw
              go_simp
              try with_reducible rfl
            clear hHeld
            intro hHeld
            try simp only [Act.put, List.setIfInBounds_toArray, List.set_cons_zero, List.set_cons_succ, List.getElem_toArray, List.getElem_cons_zero, List.getElem_cons_succ]
            refine wpAnyL_ready (rs := [3]) (by kernel_rfl) (by simp) ?_
            refine AllReadyL.cons rfl (fun K hK => ?_) AllReadyL.nil
            go_simp
            (go_at_call 100; refine (bclone_any wr.drew q.A q.n q.c q.bs ((HSP.out.later HBBr.out).drew) (by omega)).mono ?_; rintro e w6 ⟨v6, rfl, hown⟩; have hbn : Below wr.heap.size wr w6 := (below_draws wr _ 1).trans hown.2; obtain ⟨P6, c6, rfl⟩ := hown.form; have HSO6 := Lib.hid (own_base (base' := w.heap.size) hown.1 HBBr.out.size); clear hown; have HBB6 := Lib.hid (below_then HBBr.out hbn); have HA6 := Lib.hid (HAr.out.later hbn); have HB6 := Lib.hid (HBr.out.later hbn); have HZ6 := Lib.hid (HZr.out.later hbn); have HG6 := Lib.hid (HGr.out.later hbn); have HQ6 := Lib.hid (HQr.out.later hbn); have HR6 := Lib.hid (HRr.out.later hbn); have HPO6 := Lib.hid (HPOr.out.later hbn); clear hbn)
            refine hK.out _ _ (⟨fun _ => HG6.out, trivial⟩) (fun hHeld => ?_)
            clear hK K
            try simp only [Act.put, List.setIfInBounds_toArray, List.set_cons_zero, List.set_cons_succ, List.getElem_toArray, List.getElem_cons_zero, List.getElem_cons_succ]
            refine wpAnyL_ready (rs := [4]) (by kernel_rfl) (by simp) ?_
            refine AllReadyL.cons rfl (fun K hK => ?_) AllReadyL.nil
            rw [if_pos (by rfl)]
            refine wp_bslice _ 1 _ rfl #[(0, .slice P6 q.bs.length c6)] (by simp [Act.eval]) _ _ (bs_p1 P6 q.bs.length c6 _) ?_
            obtain ⟨w7, hw7⟩ : ∃ w7, w6.alloc (.cells ([Value.slice P6 q.bs.length c6]).toArray 23) = w7 := ⟨_, rfl⟩
            obtain ⟨q7, hq7⟩ : ∃ q, w6.heap.size = q := ⟨_, rfl⟩
            have hbn : Below w6.heap.size w6 w7 := hw7 ▸ below_new w6 _
            have HN7 : Hid (Sl w7 w7.heap.size 1 (some ⟨q7, 0, none⟩) 1 [Value.slice P6 q.bs.length c6]) := by
              rw [← hw7, ← hq7]; exact (Bk.new w6 _ _).sl1 rfl (by omega)
            rw [hw7, hq7]
            clear hw7 hq7
            have HBB7 := Lib.hid (below_then HBB6.out hbn)
            have HA7 := Lib.hid (HA6.out.later hbn)
            have HB7 := Lib.hid (HB6.out.later hbn)
            have HZ7 := Lib.hid (HZ6.out.later hbn)
            have HG7 := Lib.hid (HG6.out.later hbn)
            have HQ7 := Lib.hid (HQ6.out.later hbn)
            have HR7 := Lib.hid (HR6.out.later hbn)
            have HPO7 := Lib.hid (HPO6.out.later hbn)
            have HSO7 := Lib.hid (HSO6.out.later hbn)
            clear hbn
            refine hK.out _ _ ⟨fun _ => HG7.out, trivial⟩ (fun hHeld => ?_)
            clear hK K
            try simp only [Act.put, List.setIfInBounds_toArray, List.set_cons_zero, List.set_cons_succ, List.getElem_toArray, List.getElem_cons_zero, List.getElem_cons_succ]
            refine wpAnyL_ready (rs := [5]) (by kernel_rfl) (by simp) ?_
            refine AllReadyL.cons rfl (fun K hK => ?_) AllReadyL.nil
            rw [if_pos (by rfl)]
            refine wp_app _ (.tmp 50) (.tmp 53) 90 rfl w.heap.size 23 iP (.slice none 0 0) 1 24 Try.underlying90 hPi hPz hPs hPb rfl (by decide) (.slice Q k d) k (rs.map Pc.v) rfl HQ7.out _ _ 1 1 [Value.slice P6 q.bs.length c6] rfl HN7.out (by simp [Value.oneCell']) (by unfold maxLen; omega) (by omega) HBB7.out.size ?_
            intro v8 w8 hown hg hat
            obtain ⟨Q8, d8, rfl⟩ := own_form hown
            have HQ8 : Hid (w8.ownsRow w.heap.size 23 1 (.slice Q8 (k + 1) d8) (k + 1) ((rs ++ [(⟨P6, q.bs.length, c6, q.bs⟩ : Pc)]).map Pc.v)) := by show World.ownsRow _ _ _ _ _ _ _; rw [List.map_append]; exact hown
            have HR8 := Lib.hid ((HR7.out.apart HQ7.out (by decide) hg).snoc (p := ⟨P6, q.bs.length, c6, q.bs⟩) (own_apart HSO7.out HQ7.out (by decide) hg))
            have HPO8 := Lib.hid (own_apart HPO7.out HQ7.out (by decide) hg)
            have HA8 := Lib.hid (HA7.out.grown hg (Ne.symm (own_bk_ne HQ7.out HA7.out (by decide)))); have HB8 := Lib.hid (HB7.out.grown hg (Ne.symm (own_bk_ne HQ7.out HB7.out (by decide)))); have HZ8 := Lib.hid (HZ7.out.grown hg (Ne.symm (own_bk_ne HQ7.out HZ7.out (by decide)))); have HG8 := Lib.hid (HG7.out.grown hg (Ne.symm (own_bk_ne HQ7.out HG7.out (by decide))))
            have HBB8 := Lib.hid (grown_below HBB7.out HQ7.out hg (Nat.le_refl _) HBB7.out.size)
            have HL8 : Hid (bsP (rs ++ [(⟨P6, q.bs.length, c6, q.bs⟩ : Pc)]) = (bsP (joinP qs qs')).take (k + 1)) := by
              show _ = _
              rw [take_snoc (bsP_get HJP.out), ← HL.out]; simp [bsP]
            refine hK.out _ _ ⟨fun h => dead h (by kernel_rfl), trivial⟩ (fun hHeld => ?_)
            clear hK K hown hg hat
            try simp only [Act.put, List.setIfInBounds_toArray, List.set_cons_zero, List.set_cons_succ, List.getElem_toArray, List.getElem_cons_zero, List.getElem_cons_succ]
            refine wpAnyL_take0 (i := 6) (v := ?_) rfl (by kernel_rfl) (by kernel_rfl) (by kernel_rfl) (by rfl) (fun _ _ _ h => h) (Or.inl ⟨by rfl, ?_⟩) hHeld ?_
            rotate_left
            · intro w _
              go_simp
              try with_reducible rfl
            clear hHeld
            intro hHeld
            try simp only [Act.put, List.setIfInBounds_toArray, List.set_cons_zero, List.set_cons_succ, List.getElem_toArray, List.getElem_cons_zero, List.getElem_cons_succ]
            rw [sg_preQ] at HG8
            refine wpAnyL_ready (rs := [7]) (by kernel_rfl) (by simp) ?_
            refine AllReadyL.cons rfl (fun K hK => ?_) AllReadyL.nil
            rw [if_pos (by rfl)]
            refine wp_store_part _ _ _ rfl g6 10 _ ([.slice Q8 (k + 1) d8]) rfl rfl rfl _ (dl t ++ [.int .i64 n, .slice P4 N c4]) ([.slice Q k d]) ([]) HG8.out (HPQ.out _) rfl (by kernel_rfl) (by simp [Value.oneCell']) ?_
            intro w9 hp9
            refine hK.out _ _ ⟨fun h => dead h (by kernel_rfl), trivial⟩ (fun hHeld => ?_)
            clear hK K
            try simp only [Act.put, List.getElem_toArray, List.getElem_cons_zero, List.getElem_cons_succ]
            refine wpAnyL_done (by kernel_rfl) ?_ _
            have HG9 : Hid (Bk w9 g6 101 (sgC n t (.slice P4 N c4) (.slice Q8 (k + 1) d8))) := by show Bk _ _ _ _; rw [sg_preQ]; exact hp9.bk
            have HA9 := Lib.hid (HA8.out.grown hp9.only (by intro h; injection h with h; have := HGW.out; omega)); have HB9 := Lib.hid (HB8.out.grown hp9.only (by intro h; injection h with h; have := HGW.out; omega)); have HZ9 := Lib.hid (HZ8.out.grown hp9.only (by intro h; injection h with h; have := HGW.out; omega))
            have HPO9 := Lib.hid (own_only HPO8.out hp9.only (own_bk_ne HPO8.out HG8.out (by decide)))
            have HQ9 := Lib.hid (own_only HQ8.out hp9.only (own_bk_ne HQ8.out HG8.out (by decide)))
            have HR9 := Lib.hid (HR8.out.grown HG8.out (by decide) hp9.only)
            have HBB9 := Lib.hid (below_only HBB8.out hp9.only HBB8.out.size (by have := HGW.out; omega))
            clear hHeld hp9
            go_wp2_with fail
            go_roundw
            case rel => exact ⟨k + 1, d8, Q8, _, by omega, by go_num, HL8.out, HQ9.out, HR9.out, HPO9.out, HBB9.out, HA9.out, HB9.out, HZ9.out, HG9.out⟩
            case measure => simp [intOf]; omega
          · have hp1 : ((p.n : Int) == 0) = false := by simp [hp0]
            have HPP : Hid (pickP p q = p) := by show _ = _; rw [pickP, if_neg hp0]
            have HSP := HPK
            rw [HPP.out] at HJP
            clear hp0
            go_wp2_with fail
            clear hcc hcc2 h10' hp1
            refine wp_region_L [(5, fun w' => Bk w' g6 101 (sgC n t (.slice P4 N c4) (.slice Q k d)))] (by kernel_rfl) ⟨fun _ => Bk.drew HGr.out, trivial⟩ (fun hHeld => ?_)
            refine wpAnyL_take0 (i := 0) (v := ?_) rfl (by kernel_rfl) (by kernel_rfl) (by kernel_rfl) (by rfl) (fun _ _ _ h => h) (Or.inl ⟨by rfl, ?_⟩) hHeld ?_
            rotate_left
            · intro w _
              go_simp
              try with_reducible rfl
            clear hHeld
            intro hHeld
            try simp only [Act.put, List.setIfInBounds_toArray, List.set_cons_zero, List.set_cons_succ, List.getElem_toArray, List.getElem_cons_zero]
            refine wpAnyL_take0 (i := 2) (v := ?_) rfl (by kernel_rfl) (by kernel_rfl) (by kernel_rfl) (by rfl) (fun _ _ _ h => h) (Or.inl ⟨by rfl, ?_⟩) hHeld ?_
            rotate_left
            · intro w _
              go_simp
              try with_reducible rfl
            clear hHeld
            intro hHeld
            try simp only [Act.put, List.setIfInBounds_toArray, List.set_cons_zero, List.set_cons_succ, List.getElem_toArray, List.getElem_cons_zero, List.getElem_cons_succ]
            refine wpAnyL_take (i := 1) 0 rfl rfl (by kernel_rfl) (by kernel_rfl) (by kernel_rfl) (by kernel_rfl) (by kernel_rfl) (by rfl) (fun _ _ _ h => h) (v := ?_) (Or.inl ⟨by rfl, ?_⟩) hHeld ?_
            rotate_left
            · intro w hSw
              have hcell := (sg_mem HTO.out hSw).c10
              clear hSw
              go_simp
              try with_reducible rfl
            clear hHeld
            intro hHeld
            try simp only [Act.put, List.setIfInBounds_toArray, List.set_cons_zero, List.set_cons_succ, List.getElem_toArray, List.getElem_cons_zero, List.getElem_cons_succ]
            refine wpAnyL_ready (rs := [3]) (by kernel_rfl) (by simp) ?_
            refine AllReadyL.cons rfl (fun K hK => ?_) AllReadyL.nil
            go_simp
            (go_at_call 100; refine (bclone_any wr.drew p.A p.n p.c p.bs ((HSP.out.later HBBr.out).drew) (by omega)).mono ?_; rintro e w6 ⟨v6, rfl, hown⟩; have hbn : Below wr.heap.size wr w6 := (below_draws wr _ 1).trans hown.2; obtain ⟨P6, c6, rfl⟩ := hown.form; have HSO6 := Lib.hid (own_base (base' := w.heap.size) hown.1 HBBr.out.size); clear hown; have HBB6 := Lib.hid (below_then HBBr.out hbn); have HA6 := Lib.hid (HAr.out.later hbn); have HB6 := Lib.hid (HBr.out.later hbn); have HZ6 := Lib.hid (HZr.out.later hbn); have HG6 := Lib.hid (HGr.out.later hbn); have HQ6 := Lib.hid (HQr.out.later hbn); have HR6 := Lib.hid (HRr.out.later hbn); have HPO6 := Lib.hid (HPOr.out.later hbn); clear hbn)
            refine hK.out _ _ (⟨fun _ => HG6.out, trivial⟩) (fun hHeld => ?_)
            clear hK K
            try simp only [Act.put, List.setIfInBounds_toArray, List.set_cons_zero, List.set_cons_succ, List.getElem_toArray, List.getElem_cons_zero, List.getElem_cons_succ]
            refine wpAnyL_ready (rs := [4]) (by kernel_rfl) (by simp) ?_
            refine AllReadyL.cons rfl (fun K hK => ?_) AllReadyL.nil
            rw [if_pos (by rfl)]
            refine wp_bslice _ 1 _ rfl #[(0, .slice P6 p.bs.length c6)] (by simp [Act.eval]) _ _ (bs_p1 P6 p.bs.length c6 _) ?_
            obtain ⟨w7, hw7⟩ : ∃ w7, w6.alloc (.cells ([Value.slice P6 p.bs.length c6]).toArray 23) = w7 := ⟨_, rfl⟩
            obtain ⟨q7, hq7⟩ : ∃ q, w6.heap.size = q := ⟨_, rfl⟩
            have hbn : Below w6.heap.size w6 w7 := hw7 ▸ below_new w6 _
            have HN7 : Hid (Sl w7 w7.heap.size 1 (some ⟨q7, 0, none⟩) 1 [Value.slice P6 p.bs.length c6]) := by
              rw [← hw7, ← hq7]; exact (Bk.new w6 _ _).sl1 rfl (by omega)
            rw [hw7, hq7]
            clear hw7 hq7
            have HBB7 := Lib.hid (below_then HBB6.out hbn)
            have HA7 := Lib.hid (HA6.out.later hbn)
            have HB7 := Lib.hid (HB6.out.later hbn)
            have HZ7 := Lib.hid (HZ6.out.later hbn)
            have HG7 := Lib.hid (HG6.out.later hbn)
            have HQ7 := Lib.hid (HQ6.out.later hbn)
            have HR7 := Lib.hid (HR6.out.later hbn)
            have HPO7 := Lib.hid (HPO6.out.later hbn)
            have HSO7 := Lib.hid (HSO6.out.later hbn)
            clear hbn
            refine hK.out _ _ ⟨fun _ => HG7.out, trivial⟩ (fun hHeld => ?_)
            clear hK K
            try simp only [Act.put, List.setIfInBounds_toArray, List.set_cons_zero, List.set_cons_succ, List.getElem_toArray, List.getElem_cons_zero, List.getElem_cons_succ]
            refine wpAnyL_ready (rs := [5]) (by kernel_rfl) (by simp) ?_
            refine AllReadyL.cons rfl (fun K hK => ?_) AllReadyL.nil
            rw [if_pos (by rfl)]
            refine wp_app _ (.tmp 50) (.tmp 53) 90 rfl w.heap.size 23 iP (.slice none 0 0) 1 24 Try.underlying90 hPi hPz hPs hPb rfl (by decide) (.slice Q k d) k (rs.map Pc.v) rfl HQ7.out _ _ 1 1 [Value.slice P6 p.bs.length c6] rfl HN7.out (by simp [Value.oneCell']) (by unfold maxLen; omega) (by omega) HBB7.out.size ?_
            intro v8 w8 hown hg hat
            obtain ⟨Q8, d8, rfl⟩ := own_form hown
            have HQ8 : Hid (w8.ownsRow w.heap.size 23 1 (.slice Q8 (k + 1) d8) (k + 1) ((rs ++ [(⟨P6, p.bs.length, c6, p.bs⟩ : Pc)]).map Pc.v)) := by show World.ownsRow _ _ _ _ _ _ _; rw [List.map_append]; exact hown
            have HR8 := Lib.hid ((HR7.out.apart HQ7.out (by decide) hg).snoc (p := ⟨P6, p.bs.length, c6, p.bs⟩) (own_apart HSO7.out HQ7.out (by decide) hg))
            have HPO8 := Lib.hid (own_apart HPO7.out HQ7.out (by decide) hg)
            have HA8 := Lib.hid (HA7.out.grown hg (Ne.symm (own_bk_ne HQ7.out HA7.out (by decide)))); have HB8 := Lib.hid (HB7.out.grown hg (Ne.symm (own_bk_ne HQ7.out HB7.out (by decide)))); have HZ8 := Lib.hid (HZ7.out.grown hg (Ne.symm (own_bk_ne HQ7.out HZ7.out (by decide)))); have HG8 := Lib.hid (HG7.out.grown hg (Ne.symm (own_bk_ne HQ7.out HG7.out (by decide))))
            have HBB8 := Lib.hid (grown_below HBB7.out HQ7.out hg (Nat.le_refl _) HBB7.out.size)
            have HL8 : Hid (bsP (rs ++ [(⟨P6, p.bs.length, c6, p.bs⟩ : Pc)]) = (bsP (joinP qs qs')).take (k + 1)) := by
              show _ = _
              rw [take_snoc (bsP_get HJP.out), ← HL.out]; simp [bsP]
            refine hK.out _ _ ⟨fun h => dead h (by kernel_rfl), trivial⟩ (fun hHeld => ?_)
            clear hK K hown hg hat
            try simp only [Act.put, List.setIfInBounds_toArray, List.set_cons_zero, List.set_cons_succ, List.getElem_toArray, List.getElem_cons_zero, List.getElem_cons_succ]
            refine wpAnyL_take0 (i := 6) (v := ?_) rfl (by kernel_rfl) (by kernel_rfl) (by kernel_rfl) (by rfl) (fun _ _ _ h => h) (Or.inl ⟨by rfl, ?_⟩) hHeld ?_
            rotate_left
            · intro w _
              go_simp
              try with_reducible rfl
            clear hHeld
            intro hHeld
            try simp only [Act.put, List.setIfInBounds_toArray, List.set_cons_zero, List.set_cons_succ, List.getElem_toArray, List.getElem_cons_zero, List.getElem_cons_succ]
            rw [sg_preQ] at HG8
            refine wpAnyL_ready (rs := [7]) (by kernel_rfl) (by simp) ?_
            refine AllReadyL.cons rfl (fun K hK => ?_) AllReadyL.nil
            rw [if_pos (by rfl)]
            refine wp_store_part _ _ _ rfl g6 10 _ ([.slice Q8 (k + 1) d8]) rfl rfl rfl _ (dl t ++ [.int .i64 n, .slice P4 N c4]) ([.slice Q k d]) ([]) HG8.out (HPQ.out _) rfl (by kernel_rfl) (by simp [Value.oneCell']) ?_
            intro w9 hp9
            refine hK.out _ _ ⟨fun h => dead h (by kernel_rfl), trivial⟩ (fun hHeld => ?_)
            clear hK K
            try simp only [Act.put, List.getElem_toArray, List.getElem_cons_zero, List.getElem_cons_succ]
            refine wpAnyL_done (by kernel_rfl) ?_ _
            have HG9 : Hid (Bk w9 g6 101 (sgC n t (.slice P4 N c4) (.slice Q8 (k + 1) d8))) := by show Bk _ _ _ _; rw [sg_preQ]; exact hp9.bk
            have HA9 := Lib.hid (HA8.out.grown hp9.only (by intro h; injection h with h; have := HGW.out; omega)); have HB9 := Lib.hid (HB8.out.grown hp9.only (by intro h; injection h with h; have := HGW.out; omega)); have HZ9 := Lib.hid (HZ8.out.grown hp9.only (by intro h; injection h with h; have := HGW.out; omega))
            have HPO9 := Lib.hid (own_only HPO8.out hp9.only (own_bk_ne HPO8.out HG8.out (by decide)))
            have HQ9 := Lib.hid (own_only HQ8.out hp9.only (own_bk_ne HQ8.out HG8.out (by decide)))
            have HR9 := Lib.hid (HR8.out.grown HG8.out (by decide) hp9.only)
            have HBB9 := Lib.hid (below_only HBB8.out hp9.only HBB8.out.size (by have := HGW.out; omega))
            clear hHeld hp9
            go_wp2_with fail
            go_roundw
            case rel => exact ⟨k + 1, d8, Q8, _, by omega, by go_num, HL8.out, HQ9.out, HR9.out, HPO9.out, HBB9.out, HA9.out, HB9.out, HZ9.out, HG9.out⟩
            case measure => simp [intOf]; omega
        · have hkk : M = k := by omega
          subst hkk
          have HLL : Hid (bsP rs = List.zipWith pickL (bsP qs) (bsP qs')) := by
            show _ = _
            rw [HL.out, List.take_of_length_le (by rw [bsP_len, joinP_len, HQL.out, HQL'.out]; omega), joinP_bs HP0.out]
          go_wp2_with (first
            | ((with_reducible refine wpList_load_bk rfl 101 _ rfl g6 rfl (sgC n t (.slice P4 N c4) (.slice Q M d)) 101 HGr.out _ Try.underlying101 rfl (sg_info HTO.out) ?_))
            | (with_reducible refine stop_store 101 _ _ rfl ?_))
          refine StopD.go ?_
          refine wpList_store_part rfl 101 _ _ rfl (w.heap.size + 2) 0 (.agg (sgC n t (.slice P4 N c4) (.slice Q M d)).toArray) (sgC n t (.slice P4 N c4) (.slice Q M d)) rfl rfl rfl 101 [] _ [] (by simpa using HZr.out) rfl (by rw [sgC_len HTO.out]; rfl) (sg_info HTO.out) sg_one ?_
          intro w9 hp
          have HZ9 : Hid (Bk w9 (w.heap.size + 2) 101 (sgC n t (.slice P4 N c4) (.slice Q M d))) := by show Bk _ _ _ _; have := hp.bk; simpa using this
          have HBB9 := Lib.hid (below_only HBBr.out hp.only HBBr.out.size (by omega))
          have HPO9 := Lib.hid (own_only HPOr.out hp.only (own_bk_ne HPOr.out HZr.out (by decide)))
          have HQ9 := Lib.hid (own_only HQr.out hp.only (own_bk_ne HQr.out HZr.out (by decide)))
          have HR9 := Lib.hid (HRr.out.grown HZr.out (by decide) hp.only)
          clear hp
          go_wp2_with fail
          refine bodyPost_ret (join_ret HTO.out HZ9.out _ rfl rfl) rfl ?_
          exact ⟨P4, Q, N, c4, M, d, rs, rfl, HPO9.out, HQ9.out, HR9.out, HLL.out, HBB9.out⟩
    · rw [if_neg hnm]
      have hne : ((M : Int) != (M' : Int)) = true := by simp; omega
      go_enter Try.func53, Try.ntmps53
      go_upto_region 1 with fail
      rw [HW.out]
      go_wp2_with (first
        | ((with_reducible refine wpList_load_mid rfl 31 _ rfl w.heap.size 0 rfl (staC n t (.slice A N C)) _ hrS Try.underlying31 rfl HTZ.out ?_))
        | ((with_reducible refine wpList_load_mid rfl 31 _ rfl (w.heap.size + 1) 0 rfl (staC n' t' (.slice A' N' C')) _ hrS' Try.underlying31 rfl HUZ.out ?_)))
      refine HSA.out.mono ?_
      rintro e w2 ⟨rfl, hbn⟩
      have HBB2 := Lib.hid (below_then HBB1.out hbn)
      have HA2 := Lib.hid (HA1.out.later hbn)
      have HB2 := Lib.hid (HB1.out.later hbn)
      have HZ2 := Lib.hid (HZ1.out.later hbn)
      clear hbn
      clear hrS'
      have h10 := (sg_mem HTO.out HA2.out).c10
      have h10' := (sg_mem HUO.out HB2.out).c10
      clear hrS
      go_wp2_with (first
        | ((with_reducible refine wpList_build rfl 101 _ rfl #[] ?_ _ (build_sg0 _) ?_); focus (simp [Act.eval]; done))
        | (with_reducible refine stop_store 101 _ _ rfl ?_))
      refine StopD.go ?_
      refine wpList_store_part rfl 101 _ _ rfl (w.heap.size + 2) 0 (.agg (sgC 0 zeroD (.slice none 0 0) (.slice none 0 0)).toArray) (sgC 0 zeroD (.slice none 0 0) (.slice none 0 0)) rfl rfl rfl 101 [] _ [] (by simpa using HZ2.out) rfl rfl (sg_info zero_ok) sg_one ?_
      intro w9 hp
      have HZ9 : Hid (Bk w9 (w.heap.size + 2) 101 (sgC 0 zeroD (.slice none 0 0) (.slice none 0 0))) := by show Bk _ _ _ _; have := hp.bk; simpa using this
      have HBB9 := Lib.hid (below_only HBB2.out hp.only HBB2.out.size (by omega))
      clear hp
      go_wp2_with fail
      refine bodyPost_ret (join_ret zero_ok HZ9.out _ rfl rfl) rfl ?_
      exact ⟨none, none, 0, 0, 0, 0, [], rfl, World.ownsRow_nil _ _ _ _, World.ownsRow_nil _ _ _ _, PcsOwn.nil_ _ _, rfl, HBB9.out⟩
end Go.Proofs.Ythibihjblodfmaa
