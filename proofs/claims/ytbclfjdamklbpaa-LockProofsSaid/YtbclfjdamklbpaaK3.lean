/- Proofs are told, and read as they were: the walk of LockProofs. What came in: proofs. LockProofs: from what came in. -/
import Derived.Test.YtbclfjdamklbpaaK2
import Derived.Test.YtbclfjdamklbpaaK1
import Derived.Test.YtbclfjdamklbpaaSF
import Derived.Test.YtbclfjdamklbpaaL4
/-! Proofs are told, and read as they were: the walk of LockProofs. -/
namespace Go.Proofs.Ytbclfjdamklbpaa
set_option linter.unusedSimpArgs false
set_option linter.unusedVariables false
open Go.RowKit Go.Maps

theorem run_headP (A : Option Addr) (n c k : Nat) (hk : k ≤ c) (w : World) : (Instr.slice 37 (.slice A n c) none (some (.int .i64 (k : Int))) none).run Try.prog w = .ok (.slice A k c) w := by
  obtain ⟨i0, hi, _⟩ := info_parts Try.infoSlB
  exact head_run Try.underlying37 hi A n c k hk w
theorem pfB_le {k zs : List Int} {L : List (List Int)} (hk : DgOk k) (h : pfOk zs L = true) : (pfB k zs L).length ≤ 41000 := by
  obtain ⟨h1, h2, h3, h4⟩ := ok_of h
  have e1 := pfHd_le (n := zs.length) hk
  have e2 := nsB_le (zs.map Int.toNat)
  have e3 := numB_le L.length
  have e4 := ksB_le' L (fun x hx => by have := h4 x hx; unfold sgnB at this; simp at this; omega)
  rw [List.length_map] at e2
  simp only [pfB, List.length_append]
  omega
theorem pfB_ok {k zs : List Int} {L : List (List Int)} (hk : DgOk k) (h : pfOk zs L = true) (hb : ∀ x ∈ L, ByOk x) : ByOk (pfB k zs L) := by
  obtain ⟨h1, h2, h3, h4⟩ := ok_of h
  have e1 : ByOk (pfHd k zs.length) := byOk_app (lstB_ok hk.byt (by rw [hk.len]; omega)) (numB_ok (by omega))
  have e2 : ByOk (nsB (zs.map Int.toNat)) := nsB_ok (fun x hx => by
    obtain ⟨z, hz, rfl⟩ := List.mem_map.1 hx
    have := pay_facts (h3 z hz); omega)
  have e4 : ByOk (ksB L) := fun b hb' => by
    obtain ⟨x, hx, hb'⟩ := List.mem_flatMap.1 hb'
    exact lstB_ok (hb x hx) (by have := h4 x hx; unfold sgnB at this; simp at this; omega) b hb'
  exact byOk_app (byOk_app (byOk_app e1 e2) (numB_ok (by omega))) e4
theorem build_rp3 (h : List Int) (hh : DgOk h) (A B : Option Addr) (n c m d : Nat) (w : World) : (Instr.build 58 #[(0, .agg (dl h).toArray), (1, .slice A n c), (2, .slice B m d)]).run Try.prog w = .ok (.agg (pfC h (.slice A n c) (.slice B m d)).toArray) w := by
  obtain ⟨x0, x1, x2, x3, x4, x5, x6, x7, rfl⟩ := list8 h hh.len
  kernel_rfl
theorem pfk_dec {w : World} {o : PfJ} {b c d : Nat} {P R : Option Addr} {ps : List Pc} (hs : PfSmall o) (h1 : w.ownsRow b 3 1 (.slice P o.zs.length c) o.zs.length (o.zs.map (.int .i64))) (h2 : w.ownsRow b 56 1 (.slice R ps.length d) ps.length (ps.map Pc.v)) (h3 : PcsOwn w b ps) (h4 : ps.map Pc.bs = o.L) (hk : DgOk o.k) : PfK w o.k P o.zs.length o.zs R ps.length ps := by
  obtain ⟨s1, s2, s3⟩ := hs
  refine ⟨Sl.of_own h1, Sl.of_own h2, h3.ok, fun p hp => ?_, hk, by omega, ?_⟩
  · have e1 := s3 p.bs (by rw [← h4]; exact List.mem_map.2 ⟨p, hp, rfl⟩)
    have e2 := (h3.ok p hp).length
    omega
  · have e1 : ps.length = o.L.length := by rw [← h4, List.length_map]
    omega
def RetDq (k zs : List Int) (L : List (List Int)) (x : Int) (w : World) (e : Ending) (w' : World) : Prop :=
  ∃ (P : Option Addr) (c : Nat) (R : Option Addr) (d : Nat) (ps : List Pc), e = .returned (.tuple #[.agg (pfC k (.slice P zs.length c) (.slice R ps.length d)).toArray, .int .i64 x]) ∧ w'.ownsRow w.heap.size 3 1 (.slice P zs.length c) zs.length (zs.map (.int .i64)) ∧ w'.ownsRow w.heap.size 56 1 (.slice R ps.length d) ps.length (ps.map Pc.v) ∧ PcsOwn w' w.heap.size ps ∧ ps.map Pc.bs = L ∧ DgOk k ∧ Below w.heap.size w w'
theorem retDq {k zs : List Int} {L : List (List Int)} {x : Int} {w w' : World} {e : Ending} (h : RetDp ⟨k, zs, L, x⟩ w e w') : RetDq k zs L x w e w' := h
theorem wp_convP {P : Program} {o : Oper} {a : Act} {w : World} {K : Act → World → Prop} {Q : Exit → Act → World → Prop} (s d : TypeId) (x : Operand) (ho : o.op = .convert s d x) (X V : Value) (hx : a.eval x = X) (w' : World)
    (hb : (convert s d X).run P w = .ok V w') (h : K (a.put o.dst V) w') : o.wp P a w K Q := by
  unfold Oper.wp
  simp [execOp, ho, hx, hb, Result.andThen]
  exact h
set_option maxRecDepth 20000 in
set_option maxHeartbeats 8000000 in
theorem lproofs_any (w : World) (k : List Int) (hk : DgOk k) (B : Option Addr) (M D : Nat) (zs : List Int) (hMD : M ≤ D) (hz : Sl w w.heap.size 1 B M (zs.map (.int .i64))) (E : Option Addr) (Q G : Nat) (ps : List Pc) (hQG : Q ≤ G) (hp : Sl w w.heap.size 1 E Q (ps.map Pc.v)) (hpo : PcsOk w ps) (hpb : PcsBy ps)
    (A : Option Addr) (n c : Nat) (bs : List Int) (ho : ByOk bs) (hs : Sl w w.heap.size 1 A n (bs.map (.int .u8))) (hc : n ≤ c) :
    Calls Try.prog 7 #[.agg (pfC k (.slice B M D) (.slice E Q G)).toArray, .slice A n c] w fun e w' => e = .returned (.bool true) ∧ Below w.heap.size w w' := by
  have hm1 := fun ts t => min_run (P := Try.prog) ts t M 12 12 rfl
  have hm2 := fun ts t => min_run (P := Try.prog) ts t Q 12 12 rfl
  have hm3 := fun ts t => min_run (P := Try.prog) ts t n 300 300 rfl
  have hh1 := run_headI B M D (min M 12) (by omega)
  have hh2 := run_headP E Q G (min Q 12) (by omega)
  have hh3 := run_headB A n c (min n 300) (by omega)
  have hz' := hz.head1 (k := min M 12) (Nat.min_le_left _ _)
  have hp' := hp.head1 (k := min Q 12) (Nat.min_le_left _ _)
  have hs' := hs.head1 (k := min n 300) (Nat.min_le_left _ _)
  obtain ⟨m, hm⟩ : ∃ m, min M 12 = m := ⟨_, rfl⟩
  obtain ⟨q, hq⟩ : ∃ m, min Q 12 = m := ⟨_, rfl⟩
  obtain ⟨r, hr⟩ : ∃ m, min n 300 = m := ⟨_, rfl⟩
  rw [hm] at hm1 hh1 hz'; rw [hq] at hm2 hh2 hp'; rw [hr] at hm3 hh3 hs'
  have hpo' : PcsOk w (ps.take q) := fun p hp => hpo p (List.mem_of_mem_take hp)
  have ho' : ByOk (bs.take r) := ho.take r
  have hpb' : PcsBy (ps.take q) := fun p hp => hpb p (List.mem_of_mem_take hp)
  obtain ⟨ys, hys⟩ : ∃ y, zs.take m = y := ⟨_, rfl⟩
  obtain ⟨qs, hqs⟩ : ∃ y, ps.take q = y := ⟨_, rfl⟩
  obtain ⟨xs, hxs⟩ : ∃ y, bs.take r = y := ⟨_, rfl⟩
  rw [hys] at hz'; rw [hqs] at hp' hpo' hpb'; rw [hxs] at hs' ho'
  have HM : Hid (m ≤ 12 ∧ q ≤ 12 ∧ r ≤ 300 ∧ r ≤ c) := ⟨by omega, by omega, by omega, by omega⟩
  have HYS := Lib.hid hz'; have HQS := Lib.hid hp'; have HQO := Lib.hid hpo'; have HQB := Lib.hid hpb'; have HXS := Lib.hid hs'; have HXO := Lib.hid ho'; have HHO := Lib.hid hk
  clear hz hp hpo hpb hpb' hs ho hz' hp' hpo' hs' ho' hm hq hr hys hqs hxs hMD hQG hc
  obtain ⟨l, hl⟩ : ∃ x, pfC k (.slice B M D) (.slice E Q G) = x := ⟨_, rfl⟩
  obtain ⟨X, hX⟩ : ∃ X, l.toArray = X := ⟨_, rfl⟩
  obtain ⟨z, hz⟩ : ∃ z, w.heap.size = z := ⟨_, rfl⟩
  obtain ⟨w1, hw1⟩ : ∃ w1, w.alloc (.cells X 39) = w1 := ⟨_, rfl⟩
  have hb1 : Below w.heap.size w w1 := hw1 ▸ below_new w _
  have kx : Bk w1 z 39 (pfC k (.slice B M D) (.slice E Q G)) := hw1 ▸ Bk.at_ w _ X hz (by rw [← hX, hl])
  have HW := Lib.hid hw1; have HB1 := Lib.hid hb1; have HL1 := Lib.hid kx; have HZ := Lib.hid hz
  rw [hl, hX]
  clear hl hX hw1 hb1 kx hk hz l
  go_enter Try.func7, Try.ntmps7
  go_upto_region 1 with fail
  rw [HW.out, HZ.out]
  have hbd : Below w1.heap.size w1 w1.drew := below_draws w1 w1.heap.size 1
  refine wp_region_L [(20, fun w' => Bk w' z 39 (pfC k (.slice B M D) (.slice E Q G)))] (by kernel_rfl) ⟨fun _ => HL1.out.later hbd, trivial⟩ (fun hHeld => ?_)
  obtain ⟨wa, hwa⟩ : ∃ wa, w1.drew = wa := ⟨_, rfl⟩
  rw [hwa] at hbd hHeld ⊢
  have HLa := Lib.hid (HL1.out.later hbd); have HBa := Lib.hid (below_then HB1.out hbd)
  clear hwa hbd HL1 HB1
  refine wpAnyL_take0 (i := 0) (v := ?_) rfl (by kernel_rfl) (by kernel_rfl) (by kernel_rfl) (by rfl) (fun _ _ _ h => h) (Or.inl ⟨by rfl, ?_⟩) hHeld ?_
  rotate_left
  · intro w _
    go_simp
    try with_reducible rfl
  clear hHeld
  intro hHeld
  try simp only [Act.put, List.setIfInBounds_toArray, List.set_cons_zero, List.set_cons_succ, List.getElem_toArray, List.getElem_cons_zero, List.getElem_cons_succ]
  refine wpAnyL_take0 (i := 2) (v := ?_) rfl (by kernel_rfl) (by kernel_rfl) (by kernel_rfl) (by rfl) (fun _ _ _ h => h) (Or.inl ⟨by rfl, ?_⟩) hHeld ?_
  rotate_left
  · intro w _
    go_simp
    try with_reducible rfl
  clear hHeld
  intro hHeld
  try simp only [Act.put, List.setIfInBounds_toArray, List.set_cons_zero, List.set_cons_succ, List.getElem_toArray, List.getElem_cons_zero, List.getElem_cons_succ]
  refine wpAnyL_take0 (i := 7) (v := ?_) rfl (by kernel_rfl) (by kernel_rfl) (by kernel_rfl) (by rfl) (fun _ _ _ h => h) (Or.inl ⟨by rfl, ?_⟩) hHeld ?_
  rotate_left
  · intro w _
    go_simp
    try with_reducible rfl
  clear hHeld
  intro hHeld
  try simp only [Act.put, List.setIfInBounds_toArray, List.set_cons_zero, List.set_cons_succ, List.getElem_toArray, List.getElem_cons_zero, List.getElem_cons_succ]
  refine wpAnyL_take0 (i := 9) (v := ?_) rfl (by kernel_rfl) (by kernel_rfl) (by kernel_rfl) (by rfl) (fun _ _ _ h => h) (Or.inl ⟨by rfl, ?_⟩) hHeld ?_
  rotate_left
  · intro w _
    go_simp
    try with_reducible rfl
  clear hHeld
  intro hHeld
  try simp only [Act.put, List.setIfInBounds_toArray, List.set_cons_zero, List.set_cons_succ, List.getElem_toArray, List.getElem_cons_zero, List.getElem_cons_succ]
  refine wpAnyL_take0 (i := 14) (v := ?_) rfl (by kernel_rfl) (by kernel_rfl) (by kernel_rfl) (by rfl) (fun _ _ _ h => h) (Or.inl ⟨by rfl, ?_⟩) hHeld ?_
  rotate_left
  · intro w _
    go_simp
    try with_reducible rfl
  clear hHeld
  intro hHeld
  try simp only [Act.put, List.setIfInBounds_toArray, List.set_cons_zero, List.set_cons_succ, List.getElem_toArray, List.getElem_cons_zero, List.getElem_cons_succ]
  refine wpAnyL_take0 (i := 15) (v := ?_) rfl (by kernel_rfl) (by kernel_rfl) (by kernel_rfl) (by rfl) (fun _ _ _ h => h) (Or.inl ⟨by rfl, ?_⟩) hHeld ?_
  rotate_left
  · intro w _
    go_simp
    try with_reducible rfl
  clear hHeld
  intro hHeld
  try simp only [Act.put, List.setIfInBounds_toArray, List.set_cons_zero, List.set_cons_succ, List.getElem_toArray, List.getElem_cons_zero, List.getElem_cons_succ]
  refine wpAnyL_take (i := 1) 0 rfl rfl (by kernel_rfl) (by kernel_rfl) (by kernel_rfl) (by kernel_rfl) (by kernel_rfl) (by rfl) (fun _ _ _ h => h) (v := ?_) (Or.inl ⟨by rfl, ?_⟩) hHeld ?_
  rotate_left
  · intro w hSw
    have hcell := (pf_mem HHO.out hSw).c8
    clear hSw
    go_simp
    try with_reducible rfl
  clear hHeld
  intro hHeld
  try simp only [Act.put, List.setIfInBounds_toArray, List.set_cons_zero, List.set_cons_succ, List.getElem_toArray, List.getElem_cons_zero, List.getElem_cons_succ]
  refine wpAnyL_take (i := 3) 0 rfl rfl (by kernel_rfl) (by kernel_rfl) (by kernel_rfl) (by kernel_rfl) (by kernel_rfl) (by rfl) (fun _ _ _ h => h) (v := ?_) (Or.inl ⟨by rfl, ?_⟩) hHeld ?_
  rotate_left
  · intro w hSw
    have hcell := (pf_mem HHO.out hSw).c8
    clear hSw
    go_simp
    try with_reducible rfl
  clear hHeld
  intro hHeld
  try simp only [Act.put, List.setIfInBounds_toArray, List.set_cons_zero, List.set_cons_succ, List.getElem_toArray, List.getElem_cons_zero, List.getElem_cons_succ]
  refine wpAnyL_take (i := 8) 0 rfl rfl (by kernel_rfl) (by kernel_rfl) (by kernel_rfl) (by kernel_rfl) (by kernel_rfl) (by rfl) (fun _ _ _ h => h) (v := ?_) (Or.inl ⟨by rfl, ?_⟩) hHeld ?_
  rotate_left
  · intro w hSw
    have hcell := (pf_mem HHO.out hSw).c9
    clear hSw
    go_simp
    try with_reducible rfl
  clear hHeld
  intro hHeld
  try simp only [Act.put, List.setIfInBounds_toArray, List.set_cons_zero, List.set_cons_succ, List.getElem_toArray, List.getElem_cons_zero, List.getElem_cons_succ]
  refine wpAnyL_take (i := 10) 0 rfl rfl (by kernel_rfl) (by kernel_rfl) (by kernel_rfl) (by kernel_rfl) (by kernel_rfl) (by rfl) (fun _ _ _ h => h) (v := ?_) (Or.inl ⟨by rfl, ?_⟩) hHeld ?_
  rotate_left
  · intro w hSw
    have hcell := (pf_mem HHO.out hSw).c9
    clear hSw
    go_simp
    try with_reducible rfl
  clear hHeld
  intro hHeld
  try simp only [Act.put, List.setIfInBounds_toArray, List.set_cons_zero, List.set_cons_succ, List.getElem_toArray, List.getElem_cons_zero, List.getElem_cons_succ]
  refine wpAnyL_take0 (i := 4) (v := ?_) rfl (by kernel_rfl) (by kernel_rfl) (by kernel_rfl) (by rfl) (fun _ _ _ h => h) (Or.inl ⟨by rfl, ?_⟩) hHeld ?_
  rotate_left
  · intro w _
    go_simp
    try with_reducible rfl
  clear hHeld
  intro hHeld
  try simp only [Act.put, List.setIfInBounds_toArray, List.set_cons_zero, List.set_cons_succ, List.getElem_toArray, List.getElem_cons_zero, List.getElem_cons_succ]
  refine wpAnyL_take0 (i := 11) (v := ?_) rfl (by kernel_rfl) (by kernel_rfl) (by kernel_rfl) (by rfl) (fun _ _ _ h => h) (Or.inl ⟨by rfl, ?_⟩) hHeld ?_
  rotate_left
  · intro w _
    go_simp
    try with_reducible rfl
  clear hHeld
  intro hHeld
  try simp only [Act.put, List.setIfInBounds_toArray, List.set_cons_zero, List.set_cons_succ, List.getElem_toArray, List.getElem_cons_zero, List.getElem_cons_succ]
  refine wpAnyL_take0 (i := 16) (v := ?_) rfl (by kernel_rfl) (by kernel_rfl) (by kernel_rfl) (by rfl) (fun _ _ _ h => h) (Or.inl ⟨by rfl, ?_⟩) hHeld ?_
  rotate_left
  · intro w _
    go_simp
    try with_reducible rfl
  clear hHeld
  intro hHeld
  try simp only [Act.put, List.setIfInBounds_toArray, List.set_cons_zero, List.set_cons_succ, List.getElem_toArray, List.getElem_cons_zero, List.getElem_cons_succ]
  refine wpAnyL_take0 (i := 5) (v := ?_) rfl (by kernel_rfl) (by kernel_rfl) (by kernel_rfl) (by rfl) (fun _ _ _ h => h) (Or.inl ⟨by rfl, ?_⟩) hHeld ?_
  rotate_left
  · intro w _
    go_simp
    try with_reducible rfl
  clear hHeld
  intro hHeld
  try simp only [Act.put, List.setIfInBounds_toArray, List.set_cons_zero, List.set_cons_succ, List.getElem_toArray, List.getElem_cons_zero, List.getElem_cons_succ]
  refine wpAnyL_take0 (i := 12) (v := ?_) rfl (by kernel_rfl) (by kernel_rfl) (by kernel_rfl) (by rfl) (fun _ _ _ h => h) (Or.inl ⟨by rfl, ?_⟩) hHeld ?_
  rotate_left
  · intro w _
    go_simp
    try with_reducible rfl
  clear hHeld
  intro hHeld
  try simp only [Act.put, List.setIfInBounds_toArray, List.set_cons_zero, List.set_cons_succ, List.getElem_toArray, List.getElem_cons_zero, List.getElem_cons_succ]
  refine wpAnyL_take0 (i := 17) (v := ?_) rfl (by kernel_rfl) (by kernel_rfl) (by kernel_rfl) (by rfl) (fun _ _ _ h => h) (Or.inl ⟨by rfl, ?_⟩) hHeld ?_
  rotate_left
  · intro w _
    go_simp
    try with_reducible rfl
  clear hHeld
  intro hHeld
  try simp only [Act.put, List.setIfInBounds_toArray, List.set_cons_zero, List.set_cons_succ, List.getElem_toArray, List.getElem_cons_zero, List.getElem_cons_succ]
  refine wpAnyL_take0 (i := 6) (v := ?_) rfl (by kernel_rfl) (by kernel_rfl) (by kernel_rfl) (by rfl) (fun _ _ _ h => h) (Or.inl ⟨by rfl, ?_⟩) hHeld ?_
  rotate_left
  · intro w _
    go_simp
    try with_reducible rfl
  clear hHeld
  intro hHeld
  try simp only [Act.put, List.setIfInBounds_toArray, List.set_cons_zero, List.set_cons_succ, List.getElem_toArray, List.getElem_cons_zero, List.getElem_cons_succ]
  refine wpAnyL_take0 (i := 13) (v := ?_) rfl (by kernel_rfl) (by kernel_rfl) (by kernel_rfl) (by rfl) (fun _ _ _ h => h) (Or.inl ⟨by rfl, ?_⟩) hHeld ?_
  rotate_left
  · intro w _
    go_simp
    try with_reducible rfl
  clear hHeld
  intro hHeld
  try simp only [Act.put, List.setIfInBounds_toArray, List.set_cons_zero, List.set_cons_succ, List.getElem_toArray, List.getElem_cons_zero, List.getElem_cons_succ]
  refine wpAnyL_take0 (i := 18) (v := ?_) rfl (by kernel_rfl) (by kernel_rfl) (by kernel_rfl) (by rfl) (fun _ _ _ h => h) (Or.inl ⟨by rfl, ?_⟩) hHeld ?_
  rotate_left
  · intro w _
    go_simp
    try with_reducible rfl
  clear hHeld
  intro hHeld
  try simp only [Act.put, List.setIfInBounds_toArray, List.set_cons_zero, List.set_cons_succ, List.getElem_toArray, List.getElem_cons_zero, List.getElem_cons_succ]
  refine wpAnyL_take0 (i := 19) (v := ?_) rfl (by kernel_rfl) (by kernel_rfl) (by kernel_rfl) (by rfl) (fun _ _ _ h => h) (Or.inl ⟨by rfl, ?_⟩) hHeld ?_
  rotate_left
  · intro w _
    go_simp
    try with_reducible rfl
  clear hHeld
  intro hHeld
  try simp only [Act.put, List.setIfInBounds_toArray, List.set_cons_zero, List.set_cons_succ, List.getElem_toArray, List.getElem_cons_zero, List.getElem_cons_succ]
  refine wpAnyL_ready (rs := [20]) (by kernel_rfl) (by simp) ?_
  refine AllReadyL.cons rfl (fun K hK => ?_) AllReadyL.nil
  rw [if_pos (by rfl)]
  refine wp_store_part _ _ _ rfl z 8 _ ([.slice B m D]) rfl rfl rfl _ (dl k) ([.slice B M D]) ([.slice E Q G]) (by have := HLa.out; simpa [pfC] using this) (by simp [dl_len, HHO.out.len]) rfl (by kernel_rfl) (by simp [Value.oneCell']) ?_
  intro wb hp
  refine hK.out _ _ ⟨fun h => dead h (by kernel_rfl), trivial⟩ (fun hHeld => ?_)
  clear hK K
  try simp only [Act.put, List.setIfInBounds_toArray, List.set_cons_zero, List.set_cons_succ, List.getElem_toArray, List.getElem_cons_zero, List.getElem_cons_succ]
  have HLb : Hid (Bk wb z 39 (pfC k (.slice B m D) (.slice E Q G))) := by show Bk _ _ _ _; have := hp.bk; simpa [pfC] using this
  have HBb := Lib.hid (below_only HBa.out hp.only HBa.out.size (Nat.le_of_eq HZ.out))
  clear hp HLa HBa
  refine wpAnyL_take0 (i := 21) (v := ?_) rfl (by kernel_rfl) (by kernel_rfl) (by kernel_rfl) (by rfl) (fun _ _ _ h => h) (Or.inl ⟨by rfl, ?_⟩) hHeld ?_
  rotate_left
  · intro w _
    go_simp
    try with_reducible rfl
  clear hHeld
  intro hHeld
  try simp only [Act.put, List.setIfInBounds_toArray, List.set_cons_zero, List.set_cons_succ, List.getElem_toArray, List.getElem_cons_zero, List.getElem_cons_succ]
  refine wpAnyL_ready (rs := [22]) (by kernel_rfl) (by simp) ?_
  refine AllReadyL.cons rfl (fun K hK => ?_) AllReadyL.nil
  rw [if_pos (by rfl)]
  refine wp_store_part _ _ _ rfl z 9 _ ([.slice E q G]) rfl rfl rfl _ (dl k ++ [.slice B m D]) ([.slice E Q G]) ([]) (by have := HLb.out; simpa [pfC] using this) (by simp [dl_len, HHO.out.len]) rfl (by kernel_rfl) (by simp [Value.oneCell']) ?_
  intro wc hp
  refine hK.out _ _ ⟨fun h => dead h (by kernel_rfl), trivial⟩ (fun hHeld => ?_)
  clear hK K
  try simp only [Act.put, List.setIfInBounds_toArray, List.set_cons_zero, List.set_cons_succ, List.getElem_toArray, List.getElem_cons_zero, List.getElem_cons_succ]
  have HLc : Hid (Bk wc z 39 (pfC k (.slice B m D) (.slice E q G))) := by show Bk _ _ _ _; have := hp.bk; simpa [pfC] using this
  have HBc := Lib.hid (below_only HBb.out hp.only HBb.out.size (Nat.le_of_eq HZ.out))
  clear hp HLb HBb
  refine wpAnyL_take0 (i := 23) (v := ?_) rfl (by kernel_rfl) (by kernel_rfl) (by kernel_rfl) (by rfl) (fun _ _ _ h => h) (Or.inl ⟨by rfl, ?_⟩) hHeld ?_
  rotate_left
  · intro w _
    go_simp
    try with_reducible rfl
  clear hHeld
  intro hHeld
  try simp only [Act.put, List.setIfInBounds_toArray, List.set_cons_zero, List.set_cons_succ, List.getElem_toArray, List.getElem_cons_zero, List.getElem_cons_succ]
  refine wpAnyL_done (by kernel_rfl) ?_ _
  clear hHeld hm1 hm2 hm3 hh1 hh2 hh3
  go_wp2_with fail
  go_loopw [5] (fun iv wr => ∃ (i : Nat), i ≤ q ∧ iv = .int .i64 i ∧ wc = wr ∧ Hid (∀ j, j < i → ∀ p, qs[j]? = some p → p.n ≤ 5000)) (fun iv _ => q - (intOf iv).toNat)
  case atStart => exact ⟨0, Nat.zero_le _, rfl, rfl, fun i hi => by omega⟩
  case round =>
    obtain ⟨i, hi, rfl, rfl, HR⟩ := hrel
    have hml := HM.out.2.1
    have c9 := (pf_mem HHO.out HLc.out).c9
    by_cases hlt : i < q
    · have hki : (i : Int) < q := by omega
      obtain ⟨b, o, y, rfl, hy, hbl, hcell⟩ := pfc_at (HQS.out.later HBc.out) hlt
      by_cases hyp : y.n ≤ 5000
      · have hyi : ¬ ((5000 : Int) < y.n) := by omega
        have HRN : Hid (∀ j, j < i + 1 → ∀ p, qs[j]? = some p → p.n ≤ 5000) := fun j hj x hx => by
          by_cases hij : j < i
          · exact HR.out j hij x hx
          · obtain rfl : j = i := by omega
            rw [hy] at hx; injection hx with hx; subst hx; exact hyp
        clear hyp hy hbl
        go_wp2_with fail
        go_roundw
        case rel => exact ⟨i + 1, hlt, by go_num, trivial, HRN⟩
        case measure => simp [intOf]; omega
      · have hyi : (5000 : Int) < y.n := by omega
        clear hyp hy hbl
        go_wp2_with fail
        refine (ltold_any wc).mono ?_
        rintro e wd ⟨rfl, hbn⟩
        go_wp2_with fail
        go_ret
        exact ⟨rfl, below_then HBc.out hbn⟩
    · have hki : ¬ ((i : Int) < q) := by omega
      obtain rfl : q = i := by omega
      have HPK : Hid (PfK w k B m ys E q qs) := ⟨HYS.out, HQS.out, HQO.out, fun p hp => by
        obtain ⟨j, hj⟩ := List.getElem?_of_mem hp
        have hql := HQS.out.length
        exact HR.out j (by have := (List.getElem?_eq_some_iff.1 hj).1; omega) p hj, HHO.out, HM.out.1, HM.out.2.1⟩
      clear HR hlt
      have HPE : Hid (∀ w', Below w.heap.size w w' → Calls Try.prog 22 #[.agg (pfC k (.slice B m D) (.slice E q G)).toArray] w' (RetPe k ys (qs.map Pc.bs) w')) := fun w' hb => penc_any w' k B m D ys E q G qs (HPK.out.later hb)
      have HTD : Hid (∀ w', Below w.heap.size w w' → Calls Try.prog 23 #[.agg (pfC k (.slice B m D) (.slice E q G)).toArray] w' fun e w'' => e = .returned (.bool (pfOk ys (qs.map Pc.bs))) ∧ Below w'.heap.size w' w'') := fun w' hb => ptold_any w' k B m D ys E q G qs (HPK.out.later hb)
      have HDP : Hid (∀ w', Below w.heap.size w w' → Calls Try.prog 24 #[.slice A r c] w' (RetDp (decQ xs) w')) := fun w' hb => by rw [← pf_same]; exact pdec_any w' A r c xs HXO.out (HXS.out.later hb) (by have := HM.out; omega)
      have HRP : Hid (∀ w', Below w.heap.size w w' → Calls Try.prog 27 #[.slice A r c] w' (RetDp (decQ xs) w')) := fun w' hb => rpdec_any w' A r c xs HXO.out (HXS.out.later hb) (by have := HM.out; omega) HM.out.2.2.2
      have HSM : Hid (PfSmall (decQ xs)) := pf_small HXO.out
      obtain ⟨ob, hob⟩ : ∃ o, decQ xs = o := ⟨_, rfl⟩
      rw [hob] at HDP HRP HSM
      clear hob HYS HQS HQO HXS
      have c8 := (pf_mem HHO.out HLc.out).c8
      have r0 := (pf_mem HHO.out HLc.out).r0
      have HR0 := Lib.hid r0
      have HDS := Lib.hid (hdg_size _ HHO.out)
      have hbl := build_rp3 k HHO.out B E m D q G
      clear r0
      have HSL := Lib.hid (pf_sz HHO.out (.slice B m D) (.slice E q G)); have HSP := Lib.hid (rpf_sz HHO.out (.slice B m D) (.slice E q G))
      go_wp2_with (first
        | (with_reducible refine wpList_load_mid rfl 23 _ rfl z 0 rfl (dl k) _ HR0.out Try.underlying23 rfl HDS.out ?_)
        | ((with_reducible refine wpList_build rfl 58 _ rfl #[(0, .agg (dl k).toArray), (1, .slice B m D), (2, .slice E q G)] ?_ _ (hbl _) ?_); focus (simp [Act.eval, Act.put]; done))
        | (with_reducible refine stop_store 58 _ _ rfl ?_))
      clear c8 c9 hbl
      refine StopD.go ?_
      obtain ⟨gr, hgl⟩ : ∃ q, wc.heap.size = q := ⟨_, rfl⟩
      obtain ⟨wq, hwq⟩ : ∃ w', wc.alloc (.cells #[.int .u8 0, .int .u8 0, .int .u8 0, .int .u8 0, .int .u8 0, .int .u8 0, .int .u8 0, .int .u8 0, .slice none 0 0, .slice none 0 0] 58) = w' := ⟨_, rfl⟩
      have hbn : Below wc.heap.size wc wq := hwq ▸ below_new wc _
      have kt : Bk wq gr 58 ([] ++ (zPf ++ [])) := by rw [← hwq]; exact Bk.at_ wc _ _ hgl rfl
      rw [hgl, hwq]
      refine wpList_store_part rfl 58 _ _ rfl gr 0 (.agg (pfC k (.slice B m D) (.slice E q G)).toArray) (pfC k (.slice B m D) (.slice E q G)) rfl rfl rfl 58 [] zPf [] kt rfl (by rw [pfC_len HHO.out]; rfl) HSP.out (pf_one _ _ _ _ _ _ _) ?_
      intro wd hp
      have hbn : Below wc.heap.size wc wd := hbn.grown hp.only hbn.size (fun q' hq' => by injection hq' with hq'; omega)
      have HGd : Hid (Bk wd gr 58 (pfC k (.slice B m D) (.slice E q G))) := by show Bk _ _ _ _; have := hp.bk; simpa using this
      clear hp kt hgl hwq
      have HBd := Lib.hid (below_then HBc.out hbn); have HLd := Lib.hid (HLc.out.later hbn)
      clear hbn HBc HLc HR0
      obtain ⟨L, hL⟩ : ∃ L, qs.map Pc.bs = L := ⟨_, rfl⟩
      have HLL := Lib.hid hL
      rw [hL] at HPE HTD
      obtain ⟨ok, hok⟩ : ∃ b, pfOk ys L = b := ⟨_, rfl⟩
      have HOK := Lib.hid hok
      unfold RetPe at HPE
      rw [hok] at HPE HTD
      clear hok hL
      go_wp2_with (with_reducible refine wpList_load_bk rfl 39 _ rfl z rfl (pfC k (.slice B m D) (.slice E q G)) 39 HLd.out _ Try.underlying39 rfl HSL.out ?_)
      refine (HPE.out wd HBd.out).mono ?_
      rintro e we ⟨v, rfl, hown⟩
      cases ok
      · have hown : OwnB wd.heap.size [] wd v we := hown
        obtain ⟨A2, c2, rfl⟩ := hown.form
        have hbn := hown.2
        have HBe := Lib.hid (below_then HBd.out hbn); have HGe := Lib.hid (HGd.out.later hbn)
        clear hbn hown HBd HGd HLd
        rw [show (if (false : Bool) = true then (0 : Int) else 2) = 2 from rfl]
        go_wp2_with (with_reducible refine wpList_load_bk rfl 58 _ rfl gr rfl (pfC k (.slice B m D) (.slice E q G)) 58 HGe.out _ Try.underlying58 rfl HSP.out ?_)
        refine (HTD.out we HBe.out).mono ?_
        rintro e wt ⟨rfl, hbn⟩
        have HBt := Lib.hid (below_then HBe.out hbn)
        clear hbn HBe HGe
        go_wp2_with fail
        refine (HDP.out wt HBt.out).mono ?_
        rintro e wf ⟨P1, c1, R1, d1, ps1, rfl, ho1, hr1, hp1, hb1, hk1, hbn⟩
        have HBf := Lib.hid (below_then HBt.out hbn)
        have HK1 : Hid (PfK wf ob.k P1 ob.zs.length ob.zs R1 ps1.length ps1) := pfk_dec HSM.out ho1 hr1 hp1 hb1 hk1
        have HE1 : Hid (ps1.map Pc.bs = ob.L) := hb1
        have HS1 := Lib.hid (pf_sz hk1 (.slice P1 ob.zs.length c1) (.slice R1 ps1.length d1))
        have HOK1 : Hid (DgOk ob.k) := hk1
        clear ho1 hr1 hp1 hb1 hk1 hbn HBt
        go_wp2_with (with_reducible refine stop_store 39 _ _ rfl ?_)
        refine StopD.go ?_
        obtain ⟨gx, hgl⟩ : ∃ q, wf.heap.size = q := ⟨_, rfl⟩
        obtain ⟨wq, hwq⟩ : ∃ w', wf.alloc (.cells #[.int .u8 0, .int .u8 0, .int .u8 0, .int .u8 0, .int .u8 0, .int .u8 0, .int .u8 0, .int .u8 0, .slice none 0 0, .slice none 0 0] 39) = w' := ⟨_, rfl⟩
        have hbn : Below wf.heap.size wf wq := hwq ▸ below_new wf _
        have kt : Bk wq gx 39 ([] ++ (zPf ++ [])) := by rw [← hwq]; exact Bk.at_ wf _ _ hgl rfl
        rw [hgl, hwq]
        refine wpList_store_part rfl 39 _ _ rfl gx 0 (.agg (pfC ob.k (.slice P1 ob.zs.length c1) (.slice R1 ps1.length d1)).toArray) (pfC ob.k (.slice P1 ob.zs.length c1) (.slice R1 ps1.length d1)) rfl rfl rfl 39 [] zPf [] kt rfl (by rw [pfC_len HOK1.out]; rfl) HS1.out (pf_one _ _ _ _ _ _ _) ?_
        intro wg hp
        have hbn : Below wf.heap.size wf wg := hbn.grown hp.only hbn.size (fun q' hq' => by injection hq' with hq'; omega)
        have HXg : Hid (Bk wg gx 39 (pfC ob.k (.slice P1 ob.zs.length c1) (.slice R1 ps1.length d1))) := by show Bk _ _ _ _; have := hp.bk; simpa using this
        clear hp kt hgl hwq
        have HBg := Lib.hid (below_then HBf.out hbn); have HK1g := Lib.hid (HK1.out.later hbn)
        clear hbn HBf HK1
        go_wp2_with fail
        refine (HRP.out wg HBg.out).mono ?_
        rintro e wh ⟨P2, c2', R2, d2, ps2, rfl, ho1, hr1, hp1, hb1, hk1, hbn⟩
        have HBh := Lib.hid (below_then HBg.out hbn); have HK1h := Lib.hid (HK1g.out.later hbn); have HXh := Lib.hid (HXg.out.later hbn)
        have HK2 : Hid (PfK wh ob.k P2 ob.zs.length ob.zs R2 ps2.length ps2) := pfk_dec HSM.out ho1 hr1 hp1 hb1 hk1
        have HE2 : Hid (ps2.map Pc.bs = ob.L) := hb1
        have HS2 := Lib.hid (rpf_sz hk1 (.slice P2 ob.zs.length c2') (.slice R2 ps2.length d2))
        clear ho1 hr1 hp1 hb1 hk1 hbn HBg HK1g HXg
        go_wp2_with (with_reducible refine stop_store 58 _ _ rfl ?_)
        refine StopD.go ?_
        obtain ⟨gy, hgl⟩ : ∃ q, wh.heap.size = q := ⟨_, rfl⟩
        obtain ⟨wq, hwq⟩ : ∃ w', wh.alloc (.cells #[.int .u8 0, .int .u8 0, .int .u8 0, .int .u8 0, .int .u8 0, .int .u8 0, .int .u8 0, .int .u8 0, .slice none 0 0, .slice none 0 0] 58) = w' := ⟨_, rfl⟩
        have hbn : Below wh.heap.size wh wq := hwq ▸ below_new wh _
        have kt : Bk wq gy 58 ([] ++ (zPf ++ [])) := by rw [← hwq]; exact Bk.at_ wh _ _ hgl rfl
        rw [hgl, hwq]
        refine wpList_store_part rfl 58 _ _ rfl gy 0 (.agg (pfC ob.k (.slice P2 ob.zs.length c2') (.slice R2 ps2.length d2)).toArray) (pfC ob.k (.slice P2 ob.zs.length c2') (.slice R2 ps2.length d2)) rfl rfl rfl 58 [] zPf [] kt rfl (by rw [pfC_len HOK1.out]; rfl) HS2.out (pf_one _ _ _ _ _ _ _) ?_
        intro wi hp
        have hbn : Below wh.heap.size wh wi := hbn.grown hp.only hbn.size (fun q' hq' => by injection hq' with hq'; omega)
        have HYi : Hid (Bk wi gy 58 (pfC ob.k (.slice P2 ob.zs.length c2') (.slice R2 ps2.length d2))) := by show Bk _ _ _ _; have := hp.bk; simpa using this
        clear hp kt hgl hwq
        have HBi := Lib.hid (below_then HBh.out hbn); have HK1i := Lib.hid (HK1h.out.later hbn); have HK2i := Lib.hid (HK2.out.later hbn); have HXi := Lib.hid (HXh.out.later hbn)
        clear hbn HBh HK1h HK2 HXh
        go_wp2_with fail
        refine (ltold_any wi).mono ?_
        rintro e wj ⟨rfl, hbn⟩
        have HBj := Lib.hid (below_then HBi.out hbn); have HK1j := Lib.hid (HK1i.out.later hbn); have HK2j := Lib.hid (HK2i.out.later hbn); have HXj := Lib.hid (HXi.out.later hbn); have HYj := Lib.hid (HYi.out.later hbn)
        clear hbn HBi HK1i HK2i HXi HYi
        have hps : ps1.length = ps2.length := by have := congrArg List.length (HE1.out.trans HE2.out.symm); rwa [List.length_map, List.length_map] at this
        obtain ⟨y2, hy2⟩ : ∃ y, ps2.length = y := ⟨_, rfl⟩
        rw [hy2] at hps
        have HSME := Lib.hid (psame_any wj ob.k ob.zs ob.zs.length y2 P1 P2 R1 R2 c1 c2' d1 d2 ps1 ps2 (by have := HK1j.out; rwa [hps] at this) (by have := HK2j.out; rwa [hy2] at this) (HE1.out.trans HE2.out.symm))
        rw [hps] at HXj HS1; rw [hy2] at HYj HS2
        obtain ⟨r0, c8, c9⟩ := pf_mem HOK1.out HXj.out
        have HR0 := Lib.hid r0
        have HDS := Lib.hid (hdg_size _ HOK1.out)
        have hbl := build_rp3 ob.k HOK1.out P1 R1 ob.zs.length c1 y2 d1
        clear r0
        go_wp2_with (first
          | ((with_reducible refine wpList_load_midG ?_ 23 _ rfl gx 0 rfl (dl ob.k) _ HR0.out Try.underlying23 rfl HDS.out ?_); rfl)
          | ((with_reducible refine wpList_buildG ?_ 58 _ rfl #[(0, .agg (dl ob.k).toArray), (1, .slice P1 ob.zs.length c1), (2, .slice R1 y2 d1)] ?_ _ (hbl _) ?_); rfl; focus (simp [Act.eval, Act.put]; done))
          | ((with_reducible refine wpList_load_bkG ?_ 58 _ rfl gy rfl (pfC ob.k (.slice P2 ob.zs.length c2') (.slice R2 y2 d2)) 58 HYj.out _ Try.underlying58 rfl HS2.out ?_); rfl))
        refine HSME.out.mono ?_
        rintro e wz ⟨rfl, hbn⟩
        have HBz := Lib.hid (below_then HBj.out hbn)
        clear hbn
        go_wp2_with fail
        go_ret
        exact ⟨rfl, HBz.out⟩
      · have hown : OwnB wd.heap.size (pfB k ys L) wd v we := hown
        rw [show (if (true : Bool) = true then (0 : Int) else 2) = 0 from rfl]
        have hLb : ∀ x ∈ L, ByOk x := fun x hx => by
          rw [← HLL.out] at hx
          obtain ⟨p, hp, rfl⟩ := List.mem_map.1 hx
          exact HQB.out p hp
        have HTO : Hid (ByOk (pfB k ys L) ∧ (pfB k ys L).length ≤ 41000) := ⟨pfB_ok HHO.out HOK.out hLb, pfB_le HHO.out HOK.out⟩
        have HDT : Hid (decPf (pfB k ys L) = ⟨k, ys, L, 0⟩) := by show _ = _; rw [pf_same]; exact pf_enc HHO.out HOK.out
        have HPB : Hid (∀ w', Below w.heap.size w w' → Calls Try.prog 25 #[.agg (pfC k (.slice B m D) (.slice E q G)).toArray] w' (RetB w'.heap.size (pfB k ys L) w')) := fun w' hb => by
          have h1 := pbytes_any w' k B m D ys E q G qs (HPK.out.later hb) (by rw [HLL.out]; exact HOK.out)
          rwa [HLL.out] at h1
        obtain ⟨T, hT⟩ : ∃ T, pfB k ys L = T := ⟨_, rfl⟩
        rw [hT] at hown HTO HDT HPB
        have HYM : Hid (ys.length = m) := HPK.out.z.length
        have HLQ : Hid (L.length = q) := by rw [← HLL.out]; show _ = _; rw [List.length_map]; exact HPK.out.p.length
        obtain ⟨A2, c2, rfl⟩ := hown.form
        have hbn := hown.2
        have HBe := Lib.hid (below_then HBd.out hbn); have HGe := Lib.hid (HGd.out.later hbn); have HTe := Lib.hid hown.1
        clear hbn hown HBd HGd HLd hLb hT
        go_wp2_with (with_reducible refine wpList_load_bk rfl 58 _ rfl gr rfl (pfC k (.slice B m D) (.slice E q G)) 58 HGe.out _ Try.underlying58 rfl HSP.out ?_)
        refine (HTD.out we HBe.out).mono ?_
        rintro e wt ⟨rfl, hbn⟩
        have HBt := Lib.hid (below_then HBe.out hbn); have HGt := Lib.hid (HGe.out.later hbn); have HTt := Lib.hid (own_keep HTe.out hbn)
        clear hbn HBe HGe HTe
        have htc := pdec_any wt A2 T.length c2 T HTO.out.1 (Sl.of_own HTt.out) (by have := HTO.out.2; omega)
        rw [HDT.out] at htc
        have HTC := Lib.hid (htc.mono (fun e w'' h => retDq h))
        clear htc
        go_wp2_with fail
        refine HTC.out.mono ?_
        rintro e wu ⟨P0, c0, R0, d0, ps0, rfl, ho1, hr1, hp1, hb1, hk1, hbn⟩
        have HBu := Lib.hid (below_then HBt.out hbn); have HGu := Lib.hid (HGt.out.later hbn); have HTu := Lib.hid (own_keep HTt.out hbn)
        have HPu : Hid (PfK wu k P0 ys.length ys R0 ps0.length ps0) := pfk_dec (o := ⟨k, ys, L, 0⟩) (by rw [← HDT.out, pf_same]; exact pf_small HTO.out.1) ho1 hr1 hp1 hb1 hk1
        have HE0 : Hid (ps0.map Pc.bs = L) := hb1
        have HPQ : Hid (ps0.length = q) := by rw [← HLQ.out, ← hb1]; show _ = _; rw [List.length_map]
        rw [HYM.out, HPQ.out] at HPu
        rw [HYM.out, HPQ.out]
        clear ho1 hr1 hp1 hb1 hk1 hbn HBt HGt HTt HTC HDT
        have HS0 := Lib.hid (pf_sz HHO.out (.slice P0 m c0) (.slice R0 q d0))
        go_wp2_with (with_reducible refine stop_store 39 _ _ rfl ?_)
        refine StopD.go ?_
        obtain ⟨g0, hgl⟩ : ∃ q, wu.heap.size = q := ⟨_, rfl⟩
        obtain ⟨wq, hwq⟩ : ∃ w', wu.alloc (.cells #[.int .u8 0, .int .u8 0, .int .u8 0, .int .u8 0, .int .u8 0, .int .u8 0, .int .u8 0, .int .u8 0, .slice none 0 0, .slice none 0 0] 39) = w' := ⟨_, rfl⟩
        have hbn : Below wu.heap.size wu wq := hwq ▸ below_new wu _
        have kt : Bk wq g0 39 ([] ++ (zPf ++ [])) := by rw [← hwq]; exact Bk.at_ wu _ _ hgl rfl
        rw [hgl, hwq]
        refine wpList_store_part rfl 39 _ _ rfl g0 0 (.agg (pfC k (.slice P0 m c0) (.slice R0 q d0)).toArray) (pfC k (.slice P0 m c0) (.slice R0 q d0)) rfl rfl rfl 39 [] zPf [] kt rfl (by rw [pfC_len HHO.out]; rfl) HS0.out (pf_one _ _ _ _ _ _ _) ?_
        intro wv hp
        have hbn : Below wu.heap.size wu wv := hbn.grown hp.only hbn.size (fun q' hq' => by injection hq' with hq'; omega)
        have HX0v : Hid (Bk wv g0 39 (pfC k (.slice P0 m c0) (.slice R0 q d0))) := by show Bk _ _ _ _; have := hp.bk; simpa using this
        clear hp kt hgl hwq
        have HBv := Lib.hid (below_then HBu.out hbn); have HGv := Lib.hid (HGu.out.later hbn); have HTv := Lib.hid (own_keep HTu.out hbn); have HPv := Lib.hid (HPu.out.later hbn)
        clear hbn HBu HGu HTu HPu
        have hbl := build_rp3 k HHO.out P0 R0 m c0 q d0
        go_wp2_with fail
        refine wp_region_held_drew (S := fun w' => Bk w' gr 58 (pfC k (.slice B m D) (.slice E q G)) ∧ Bk w' g0 39 (pfC k (.slice P0 m c0) (.slice R0 q d0)) ∧ Sl w' w'.heap.size 1 A2 T.length (T.map (.int .u8))) (by kernel_rfl) ⟨Bk.drew HGv.out, Bk.drew HX0v.out, Sl.of_own (w := wv.drew) (own_keep HTv.out (below_draws wv wv.heap.size 1))⟩ (fun hHeld => ?_)
        have hbn : Below wv.heap.size wv wv.drew := below_draws wv wv.heap.size 1
        obtain ⟨wa, hwa⟩ : ∃ wa, wv.drew = wa := ⟨_, rfl⟩
        rw [hwa] at hbn hHeld ⊢
        have HBa := Lib.hid (below_then HBv.out hbn); have HGa := Lib.hid (HGv.out.later hbn); have HX0a := Lib.hid (HX0v.out.later hbn); have HTa := Lib.hid (own_keep HTv.out hbn); have HPa := Lib.hid (HPv.out.later hbn); clear hbn HBv HGv HX0v HTv HPv
        clear hwa
        refine wpAnyH_take (i := 0) (v := ?_) rfl (by kernel_rfl) (by kernel_rfl) (by kernel_rfl) (fun _ _ _ h => h) (Or.inl ⟨by rfl, ?_⟩) (by assumption) ?_
        rotate_left
        · intro w hSw
          (try dsimp only at hSw)
          go_simp
          try with_reducible rfl
        try simp only [Act.put, List.setIfInBounds_toArray, List.set_cons_zero, List.set_cons_succ, List.getElem_toArray, List.getElem_cons_zero, List.getElem_cons_succ]
        refine wpAnyH_take (i := 1) (v := ?_) rfl (by kernel_rfl) (by kernel_rfl) (by kernel_rfl) (fun _ _ _ h => h) (Or.inl ⟨by rfl, ?_⟩) (by assumption) ?_
        rotate_left
        · intro w hSw
          (try dsimp only at hSw)
          go_simp
          try with_reducible rfl
        try simp only [Act.put, List.setIfInBounds_toArray, List.set_cons_zero, List.set_cons_succ, List.getElem_toArray, List.getElem_cons_zero, List.getElem_cons_succ]
        refine wpAnyH_take (i := 2) (v := ?_) rfl (by kernel_rfl) (by kernel_rfl) (by kernel_rfl) (fun _ _ _ h => h) (Or.inl ⟨by rfl, ?_⟩) (by assumption) ?_
        rotate_left
        · intro w hSw
          (try dsimp only at hSw)
          go_simp
          try with_reducible rfl
        try simp only [Act.put, List.setIfInBounds_toArray, List.set_cons_zero, List.set_cons_succ, List.getElem_toArray, List.getElem_cons_zero, List.getElem_cons_succ]
        refine wpAnyH_take (i := 3) (v := ?_) rfl (by kernel_rfl) (by kernel_rfl) (by kernel_rfl) (fun _ _ _ h => h) (Or.inl ⟨by rfl, ?_⟩) (by assumption) ?_
        rotate_left
        · intro w hSw
          (try dsimp only at hSw)
          go_simp
          try with_reducible rfl
        try simp only [Act.put, List.setIfInBounds_toArray, List.set_cons_zero, List.set_cons_succ, List.getElem_toArray, List.getElem_cons_zero, List.getElem_cons_succ]
        refine wpAnyH_take (i := 4) (v := ?_) rfl (by kernel_rfl) (by kernel_rfl) (by kernel_rfl) (fun _ _ _ h => h) (Or.inl ⟨by rfl, ?_⟩) (by assumption) ?_
        rotate_left
        · intro w hSw
          have hcell := conv_any _ _ A2 T.length c2 T hSw.2.2
          clear hSw
          go_simp
          try with_reducible rfl
        try simp only [Act.put, List.setIfInBounds_toArray, List.set_cons_zero, List.set_cons_succ, List.getElem_toArray, List.getElem_cons_zero, List.getElem_cons_succ]
        refine wpAnyH_take (i := 5) (v := .agg (List.toArray (pfC k (.slice B m D) (.slice E q G)))) rfl (by kernel_rfl) (by kernel_rfl) (by kernel_rfl) (fun _ _ _ h => h) (yieldsIf_load_mid (by rfl) _ _ rfl _ _ rfl (pfC k (.slice B m D) (.slice E q G)) _ (fun w hSw => (Bk.range (pre := []) (post := []) (by simpa using hSw.1) rfl)) Try.underlying58 rfl (HSP.out)) (by assumption) ?_
        try simp only [Act.put, List.setIfInBounds_toArray, List.set_cons_zero, List.set_cons_succ, List.getElem_toArray, List.getElem_cons_zero, List.getElem_cons_succ]
        refine wpAnyH_ready (rs := [6]) (by kernel_rfl) (by simp) ?_
        refine AllReadyH.cons rfl (fun K hK => ?_) AllReadyH.nil
        go_simp
        (go_at_call 25; refine (HPB.out wa HBa.out).mono ?_; rintro e wb ⟨v9, rfl, hv9⟩; obtain ⟨A9, c9, rfl⟩ := hv9.form; have hbn := hv9.2; have HV9 := Lib.hid hv9.1; clear hv9; have HBb := Lib.hid (below_then HBa.out hbn); have HGb := Lib.hid (HGa.out.later hbn); have HX0b := Lib.hid (HX0a.out.later hbn); have HTb := Lib.hid (own_keep HTa.out hbn); have HPb := Lib.hid (HPa.out.later hbn); clear hbn HBa HGa HX0a HTa HPa)
        refine hK.out _ _ (⟨HGb.out, HX0b.out, Sl.of_own HTb.out⟩) (fun hHeld => ?_)
        clear hK K
        try simp only [Act.put, List.setIfInBounds_toArray, List.set_cons_zero, List.set_cons_succ, List.getElem_toArray, List.getElem_cons_zero, List.getElem_cons_succ]
        refine wpAnyH_ready (rs := [7]) (by kernel_rfl) (by simp) ?_
        refine AllReadyH.cons rfl (fun K hK => ?_) AllReadyH.nil
        rw [if_pos (by rfl)]
        refine wp_convP 56 9 _ rfl (.slice A9 T.length c9) (.string (strOf T)) rfl wb (conv_any wb _ A9 T.length c9 T (Sl.of_own HV9.out)) ?_
        refine hK.out _ _ (⟨HGb.out, HX0b.out, Sl.of_own HTb.out⟩) (fun hHeld => ?_)
        clear hK K
        try simp only [Act.put, List.setIfInBounds_toArray, List.set_cons_zero, List.set_cons_succ, List.getElem_toArray, List.getElem_cons_zero, List.getElem_cons_succ]
        refine wpAnyH_take (i := 8) (v := ?_) rfl (by kernel_rfl) (by kernel_rfl) (by kernel_rfl) (fun _ _ _ h => h) (Or.inl ⟨by rfl, ?_⟩) (by assumption) ?_
        rotate_left
        · intro w hSw
          (try dsimp only at hSw)
          go_simp
          try with_reducible rfl
        try simp only [Act.put, List.setIfInBounds_toArray, List.set_cons_zero, List.set_cons_succ, List.getElem_toArray, List.getElem_cons_zero, List.getElem_cons_succ]
        refine wpAnyH_take (i := 9) (v := ?_) rfl (by kernel_rfl) (by kernel_rfl) (by kernel_rfl) (fun _ _ _ h => h) (Or.inl ⟨by rfl, ?_⟩) (by assumption) ?_
        rotate_left
        · intro w hSw
          (try dsimp only at hSw)
          go_simp
          try with_reducible rfl
        try simp only [Act.put, List.setIfInBounds_toArray, List.set_cons_zero, List.set_cons_succ, List.getElem_toArray, List.getElem_cons_zero, List.getElem_cons_succ]
        refine wpAnyH_take (i := 10) (v := ?_) rfl (by kernel_rfl) (by kernel_rfl) (by kernel_rfl) (fun _ _ _ h => h) (Or.inl ⟨by rfl, ?_⟩) (by assumption) ?_
        rotate_left
        · intro w hSw
          (try dsimp only at hSw)
          go_simp
          try with_reducible rfl
        try simp only [Act.put, List.setIfInBounds_toArray, List.set_cons_zero, List.set_cons_succ, List.getElem_toArray, List.getElem_cons_zero, List.getElem_cons_succ]
        refine wpAnyH_take (i := 11) (v := ?_) rfl (by kernel_rfl) (by kernel_rfl) (by kernel_rfl) (fun _ _ _ h => h) (Or.inl ⟨by rfl, ?_⟩) (by assumption) ?_
        rotate_left
        · intro w hSw
          (try dsimp only at hSw)
          go_simp
          try with_reducible rfl
        try simp only [Act.put, List.setIfInBounds_toArray, List.set_cons_zero, List.set_cons_succ, List.getElem_toArray, List.getElem_cons_zero, List.getElem_cons_succ]
        refine wpAnyH_take (i := 13) (v := ?_) rfl (by kernel_rfl) (by kernel_rfl) (by kernel_rfl) (fun _ _ _ h => h) (Or.inl ⟨by rfl, ?_⟩) (by assumption) ?_
        rotate_left
        · intro w hSw
          (try dsimp only at hSw)
          go_simp
          try with_reducible rfl
        try simp only [Act.put, List.setIfInBounds_toArray, List.set_cons_zero, List.set_cons_succ, List.getElem_toArray, List.getElem_cons_zero, List.getElem_cons_succ]
        refine wpAnyH_take (i := 15) (v := ?_) rfl (by kernel_rfl) (by kernel_rfl) (by kernel_rfl) (fun _ _ _ h => h) (Or.inl ⟨by rfl, ?_⟩) (by assumption) ?_
        rotate_left
        · intro w hSw
          (try dsimp only at hSw)
          go_simp
          try with_reducible rfl
        try simp only [Act.put, List.setIfInBounds_toArray, List.set_cons_zero, List.set_cons_succ, List.getElem_toArray, List.getElem_cons_zero, List.getElem_cons_succ]
        refine wpAnyH_take (i := 12) (v := .agg (List.toArray (dl k))) rfl (by kernel_rfl) (by kernel_rfl) (by kernel_rfl) (fun _ _ _ h => h) (yieldsIf_load_mid (by rfl) _ _ rfl _ _ rfl (dl k) _ (fun w hSw => (pf_mem HHO.out hSw.2.1).r0) Try.underlying23 rfl (HDS.out)) (by assumption) ?_
        try simp only [Act.put, List.setIfInBounds_toArray, List.set_cons_zero, List.set_cons_succ, List.getElem_toArray, List.getElem_cons_zero, List.getElem_cons_succ]
        refine wpAnyH_take (i := 14) (v := ?_) rfl (by kernel_rfl) (by kernel_rfl) (by kernel_rfl) (fun _ _ _ h => h) (Or.inl ⟨by rfl, ?_⟩) (by assumption) ?_
        rotate_left
        · intro w hSw
          have hcell := (pf_mem HHO.out hSw.2.1).c8
          clear hSw
          go_simp
          try with_reducible rfl
        try simp only [Act.put, List.setIfInBounds_toArray, List.set_cons_zero, List.set_cons_succ, List.getElem_toArray, List.getElem_cons_zero, List.getElem_cons_succ]
        refine wpAnyH_take (i := 16) (v := ?_) rfl (by kernel_rfl) (by kernel_rfl) (by kernel_rfl) (fun _ _ _ h => h) (Or.inl ⟨by rfl, ?_⟩) (by assumption) ?_
        rotate_left
        · intro w hSw
          have hcell := (pf_mem HHO.out hSw.2.1).c9
          clear hSw
          go_simp
          try with_reducible rfl
        try simp only [Act.put, List.setIfInBounds_toArray, List.set_cons_zero, List.set_cons_succ, List.getElem_toArray, List.getElem_cons_zero, List.getElem_cons_succ]
        refine wpAnyH_take (i := 17) (v := .agg (List.toArray (pfC k (.slice P0 m c0) (.slice R0 q d0)))) rfl (by kernel_rfl) (by kernel_rfl) (by kernel_rfl) (fun _ _ _ h => h) (yieldsIf_build (by rfl) _ _ rfl #[(0, .agg (dl k).toArray), (1, .slice P0 m c0), (2, .slice R0 q d0)] (by simp [Act.eval]) _ hbl) (by assumption) ?_
        try simp only [Act.put, List.setIfInBounds_toArray, List.set_cons_zero, List.set_cons_succ, List.getElem_toArray, List.getElem_cons_zero, List.getElem_cons_succ]
        refine wpAnyH_take (i := 18) (v := .agg (List.toArray (pfC k (.slice B m D) (.slice E q G)))) rfl (by kernel_rfl) (by kernel_rfl) (by kernel_rfl) (fun _ _ _ h => h) (yieldsIf_load_mid (by rfl) _ _ rfl _ _ rfl (pfC k (.slice B m D) (.slice E q G)) _ (fun w hSw => (Bk.range (pre := []) (post := []) (by simpa using hSw.1) rfl)) Try.underlying58 rfl (HSP.out)) (by assumption) ?_
        try simp only [Act.put, List.setIfInBounds_toArray, List.set_cons_zero, List.set_cons_succ, List.getElem_toArray, List.getElem_cons_zero, List.getElem_cons_succ]
        refine wpAnyH_ready (rs := [19]) (by kernel_rfl) (by simp) ?_
        refine AllReadyH.cons rfl (fun K hK => ?_) AllReadyH.nil
        go_simp
        (go_at_call 26; refine (psame_any wb k ys m q P0 B R0 E c0 D d0 G ps0 qs (by have := HPb.out; exact this) (HPK.out.later HBb.out) (HE0.out.trans HLL.out.symm)).mono ?_; rintro e wx ⟨rfl, hbn⟩; have HBx := Lib.hid (below_then HBb.out hbn); have HGx := Lib.hid (HGb.out.later hbn); have HX0x := Lib.hid (HX0b.out.later hbn); have HTx := Lib.hid (own_keep HTb.out hbn); have HPx := Lib.hid (HPb.out.later hbn); clear hbn HBb HGb HX0b HTb HPb)
        refine hK.out _ _ (⟨HGx.out, HX0x.out, Sl.of_own HTx.out⟩) (fun hHeld => ?_)
        clear hK K
        try simp only [Act.put, List.setIfInBounds_toArray, List.set_cons_zero, List.set_cons_succ, List.getElem_toArray, List.getElem_cons_zero, List.getElem_cons_succ]
        refine wpAnyH_take (i := 20) (v := ?_) rfl (by kernel_rfl) (by kernel_rfl) (by kernel_rfl) (fun _ _ _ h => h) (Or.inl ⟨by rfl, ?_⟩) (by assumption) ?_
        rotate_left
        · intro w hSw
          (try dsimp only at hSw)
          go_simp
          try with_reducible rfl
        try simp only [Act.put, List.setIfInBounds_toArray, List.set_cons_zero, List.set_cons_succ, List.getElem_toArray, List.getElem_cons_zero, List.getElem_cons_succ]
        refine wpAnyH_take (i := 21) (v := ?_) rfl (by kernel_rfl) (by kernel_rfl) (by kernel_rfl) (fun _ _ _ h => h) (Or.inl ⟨by rfl, ?_⟩) (by assumption) ?_
        rotate_left
        · intro w hSw
          (try dsimp only at hSw)
          go_simp
          try with_reducible rfl
        try simp only [Act.put, List.setIfInBounds_toArray, List.set_cons_zero, List.set_cons_succ, List.getElem_toArray, List.getElem_cons_zero, List.getElem_cons_succ]
        refine wpAnyH_done (by kernel_rfl) ?_ _
        clear hHeld hbl HGx HX0x HTx HPx
        go_wp2_with fail
        refine (HDP.out wx HBx.out).mono ?_
        rintro e wf ⟨P1, c1, R1, d1, ps1, rfl, ho1, hr1, hp1, hb1, hk1, hbn⟩
        have HBf := Lib.hid (below_then HBx.out hbn)
        have HK1 : Hid (PfK wf ob.k P1 ob.zs.length ob.zs R1 ps1.length ps1) := pfk_dec HSM.out ho1 hr1 hp1 hb1 hk1
        have HE1 : Hid (ps1.map Pc.bs = ob.L) := hb1
        have HS1 := Lib.hid (pf_sz hk1 (.slice P1 ob.zs.length c1) (.slice R1 ps1.length d1))
        have HOK1 : Hid (DgOk ob.k) := hk1
        clear ho1 hr1 hp1 hb1 hk1 hbn HBx
        go_wp2_with (with_reducible refine stop_store 39 _ _ rfl ?_)
        refine StopD.go ?_
        obtain ⟨gx, hgl⟩ : ∃ q, wf.heap.size = q := ⟨_, rfl⟩
        obtain ⟨wq, hwq⟩ : ∃ w', wf.alloc (.cells #[.int .u8 0, .int .u8 0, .int .u8 0, .int .u8 0, .int .u8 0, .int .u8 0, .int .u8 0, .int .u8 0, .slice none 0 0, .slice none 0 0] 39) = w' := ⟨_, rfl⟩
        have hbn : Below wf.heap.size wf wq := hwq ▸ below_new wf _
        have kt : Bk wq gx 39 ([] ++ (zPf ++ [])) := by rw [← hwq]; exact Bk.at_ wf _ _ hgl rfl
        rw [hgl, hwq]
        refine wpList_store_part rfl 39 _ _ rfl gx 0 (.agg (pfC ob.k (.slice P1 ob.zs.length c1) (.slice R1 ps1.length d1)).toArray) (pfC ob.k (.slice P1 ob.zs.length c1) (.slice R1 ps1.length d1)) rfl rfl rfl 39 [] zPf [] kt rfl (by rw [pfC_len HOK1.out]; rfl) HS1.out (pf_one _ _ _ _ _ _ _) ?_
        intro wg hp
        have hbn : Below wf.heap.size wf wg := hbn.grown hp.only hbn.size (fun q' hq' => by injection hq' with hq'; omega)
        have HXg : Hid (Bk wg gx 39 (pfC ob.k (.slice P1 ob.zs.length c1) (.slice R1 ps1.length d1))) := by show Bk _ _ _ _; have := hp.bk; simpa using this
        clear hp kt hgl hwq
        have HBg := Lib.hid (below_then HBf.out hbn); have HK1g := Lib.hid (HK1.out.later hbn)
        clear hbn HBf HK1
        go_wp2_with fail
        refine (HRP.out wg HBg.out).mono ?_
        rintro e wh ⟨P2, c2', R2, d2, ps2, rfl, ho1, hr1, hp1, hb1, hk1, hbn⟩
        have HBh := Lib.hid (below_then HBg.out hbn); have HK1h := Lib.hid (HK1g.out.later hbn); have HXh := Lib.hid (HXg.out.later hbn)
        have HK2 : Hid (PfK wh ob.k P2 ob.zs.length ob.zs R2 ps2.length ps2) := pfk_dec HSM.out ho1 hr1 hp1 hb1 hk1
        have HE2 : Hid (ps2.map Pc.bs = ob.L) := hb1
        have HS2 := Lib.hid (rpf_sz hk1 (.slice P2 ob.zs.length c2') (.slice R2 ps2.length d2))
        clear ho1 hr1 hp1 hb1 hk1 hbn HBg HK1g HXg
        go_wp2_with (with_reducible refine stop_store 58 _ _ rfl ?_)
        refine StopD.go ?_
        obtain ⟨gy, hgl⟩ : ∃ q, wh.heap.size = q := ⟨_, rfl⟩
        obtain ⟨wq, hwq⟩ : ∃ w', wh.alloc (.cells #[.int .u8 0, .int .u8 0, .int .u8 0, .int .u8 0, .int .u8 0, .int .u8 0, .int .u8 0, .int .u8 0, .slice none 0 0, .slice none 0 0] 58) = w' := ⟨_, rfl⟩
        have hbn : Below wh.heap.size wh wq := hwq ▸ below_new wh _
        have kt : Bk wq gy 58 ([] ++ (zPf ++ [])) := by rw [← hwq]; exact Bk.at_ wh _ _ hgl rfl
        rw [hgl, hwq]
        refine wpList_store_part rfl 58 _ _ rfl gy 0 (.agg (pfC ob.k (.slice P2 ob.zs.length c2') (.slice R2 ps2.length d2)).toArray) (pfC ob.k (.slice P2 ob.zs.length c2') (.slice R2 ps2.length d2)) rfl rfl rfl 58 [] zPf [] kt rfl (by rw [pfC_len HOK1.out]; rfl) HS2.out (pf_one _ _ _ _ _ _ _) ?_
        intro wi hp
        have hbn : Below wh.heap.size wh wi := hbn.grown hp.only hbn.size (fun q' hq' => by injection hq' with hq'; omega)
        have HYi : Hid (Bk wi gy 58 (pfC ob.k (.slice P2 ob.zs.length c2') (.slice R2 ps2.length d2))) := by show Bk _ _ _ _; have := hp.bk; simpa using this
        clear hp kt hgl hwq
        have HBi := Lib.hid (below_then HBh.out hbn); have HK1i := Lib.hid (HK1h.out.later hbn); have HK2i := Lib.hid (HK2.out.later hbn); have HXi := Lib.hid (HXh.out.later hbn)
        clear hbn HBh HK1h HK2 HXh
        go_wp2_with fail
        refine (ltold_any wi).mono ?_
        rintro e wj ⟨rfl, hbn⟩
        have HBj := Lib.hid (below_then HBi.out hbn); have HK1j := Lib.hid (HK1i.out.later hbn); have HK2j := Lib.hid (HK2i.out.later hbn); have HXj := Lib.hid (HXi.out.later hbn); have HYj := Lib.hid (HYi.out.later hbn)
        clear hbn HBi HK1i HK2i HXi HYi
        have hps : ps1.length = ps2.length := by have := congrArg List.length (HE1.out.trans HE2.out.symm); rwa [List.length_map, List.length_map] at this
        obtain ⟨y2, hy2⟩ : ∃ y, ps2.length = y := ⟨_, rfl⟩
        rw [hy2] at hps
        have HSME := Lib.hid (psame_any wj ob.k ob.zs ob.zs.length y2 P1 P2 R1 R2 c1 c2' d1 d2 ps1 ps2 (by have := HK1j.out; rwa [hps] at this) (by have := HK2j.out; rwa [hy2] at this) (HE1.out.trans HE2.out.symm))
        rw [hps] at HXj HS1; rw [hy2] at HYj HS2
        obtain ⟨r0, c8, c9⟩ := pf_mem HOK1.out HXj.out
        have HR0 := Lib.hid r0
        have HDS := Lib.hid (hdg_size _ HOK1.out)
        have hbl := build_rp3 ob.k HOK1.out P1 R1 ob.zs.length c1 y2 d1
        clear r0
        go_wp2_with (first
          | ((with_reducible refine wpList_load_midG ?_ 23 _ rfl gx 0 rfl (dl ob.k) _ HR0.out Try.underlying23 rfl HDS.out ?_); rfl)
          | ((with_reducible refine wpList_buildG ?_ 58 _ rfl #[(0, .agg (dl ob.k).toArray), (1, .slice P1 ob.zs.length c1), (2, .slice R1 y2 d1)] ?_ _ (hbl _) ?_); rfl; focus (simp [Act.eval, Act.put]; done))
          | ((with_reducible refine wpList_load_bkG ?_ 58 _ rfl gy rfl (pfC ob.k (.slice P2 ob.zs.length c2') (.slice R2 y2 d2)) 58 HYj.out _ Try.underlying58 rfl HS2.out ?_); rfl))
        refine HSME.out.mono ?_
        rintro e wz ⟨rfl, hbn⟩
        have HBz := Lib.hid (below_then HBj.out hbn)
        clear hbn
        go_wp2_with fail
        go_ret
        exact ⟨rfl, HBz.out⟩
end Go.Proofs.Ytbclfjdamklbpaa

/-! What came in: proofs. -/
namespace Go.Proofs.Ytbclfjdamklbpaa
set_option linter.unusedSimpArgs false
set_option linter.unusedVariables false
set_option linter.constructorNameAsVariable false
open Go.ChangeShapes Go.WideShapes Go.ChangeAt Go.RowKit Go.Deep


set_option maxRecDepth 100000 in
theorem rs_pf {H : Type} {enc : TypeId × Value → H} {W : World} {fuel : Nat} {cs : List Value} {y : DataW H × List MemPlace} (hf : DataW.trod enc Try.prog W 0 (fun _ => true) true fuel 39 cs = some y) :
    ∃ (k : List Int) (A : Option Addr) (N : Nat) (C : Nat) (zs : List Int) (B : Option Addr) (M : Nat) (D : Nat) (qs : List Pc), cs = pfC k (.slice A N C) (.slice B M D) ∧ DgOk k ∧ (N ≤ C ∧ Sl W W.heap.size 1 A N (zs.map (.int .i64)) ∧ I64Ok zs) ∧ (M ≤ D ∧ Sl W W.heap.size 1 B M (qs.map Pc.v) ∧ PcsOk W qs ∧ PcsBy qs ∧ ∀ p ∈ qs, Pc.n p ≤ Pc.c p) := by
  obtain ⟨xs, m, _, _, hlen, hxl, hg⟩ := DataW.trod_struct Try.underlying39 hf
  have hl : cs.length = 10 := by rw [hlen]; kernel_rfl
  match xs, hxl with
  | [y0, y1, y2], _ =>
    have g0 : DataW.trod enc Try.prog W 0 (fun _ => true) true m 23 (List.take (Try.prog.cellsOf 23) (List.drop 0 cs)) = some y0 := hg 0 _ rfl
    have g1 : DataW.trod enc Try.prog W 0 (fun _ => true) true m 27 (List.take (Try.prog.cellsOf 27) (List.drop 8 cs)) = some y1 := hg 1 _ rfl
    have g2 : DataW.trod enc Try.prog W 0 (fun _ => true) true m 37 (List.take (Try.prog.cellsOf 37) (List.drop 9 cs)) = some y2 := hg 2 _ rfl
    rw [show Try.prog.cellsOf 23 = 8 by kernel_rfl] at g0
    rw [show Try.prog.cellsOf 27 = 1 by kernel_rfl] at g1
    rw [show Try.prog.cellsOf 37 = 1 by kernel_rfl] at g2
    obtain ⟨k, e0, h0⟩ := trod_dg Try.underlying23 Try.underlying5 (by kernel_rfl) (by kernel_rfl) g0
    obtain ⟨A, N, C, zs, e1, h1⟩ := trod_is  (by rw [List.length_take, List.length_drop]; omega) g1
    obtain ⟨B, M, D, qs, e2, h2⟩ := trod_pcs  (by rw [List.length_take, List.length_drop]; omega) g2
    refine ⟨k, A, N, C, zs, B, M, D, qs, ?_, h0, h1, h2⟩
    rw [show cs = cs.drop 0 from rfl, part_at cs 0 8, e0, part_at cs (0 + 8) 1, e1, part_at cs (0 + 8 + 1) 1, e2, List.drop_of_length_le (by omega)]
    simp [pfC]
set_option maxRecDepth 100000 in
theorem open_pf {H : Type} {enc : TypeId × Value → H} {W : World} {v : Value} {d : DataW H} {p : List MemPlace} {r : Reach} {b0 : Nat} (hv : Value.okWide Try.prog W r b0 39 v) (h : DataW.Trod enc Try.prog W 0 (fun _ => true) true 39 v d p) :
    ∃ (k : List Int) (A : Option Addr) (N : Nat) (C : Nat) (zs : List Int) (B : Option Addr) (M : Nat) (D : Nat) (qs : List Pc), v = .agg (pfC k (.slice A N C) (.slice B M D)).toArray ∧ DgOk k ∧ (N ≤ C ∧ Sl W W.heap.size 1 A N (zs.map (.int .i64)) ∧ I64Ok zs) ∧ (M ≤ D ∧ Sl W W.heap.size 1 B M (qs.map Pc.v) ∧ PcsOk W qs ∧ PcsBy qs ∧ ∀ p ∈ qs, Pc.n p ≤ Pc.c p) := by
  obtain ⟨cs, rfl, _⟩ := okWide_struct Try.underlying39 hv
  obtain ⟨fuel, hf⟩ := h
  simp only [Value.cells] at hf
  obtain ⟨k, A, N, C, zs, B, M, D, qs, e, h⟩ := rs_pf hf
  exact ⟨k, A, N, C, zs, B, M, D, qs, by rw [← e], h⟩
end Go.Proofs.Ytbclfjdamklbpaa

/-! LockProofs: from what came in. -/
namespace Go.Proofs.Ytbclfjdamklbpaa
open Go.RowKit

theorem law_LockProofs' (k : List Int) (A : Option Addr) (N C : Nat) (zs : List Int) (B : Option Addr) (M D : Nat) (qs : List Pc) (E : Option Addr) (n c : Nat) (z : List Int) (W : World)
    (h0 : DgOk k ∧ (N ≤ C ∧ Sl W W.heap.size 1 A N (zs.map (.int .i64)) ∧ I64Ok zs) ∧ (M ≤ D ∧ Sl W W.heap.size 1 B M (qs.map Pc.v) ∧ PcsOk W qs ∧ PcsBy qs ∧ ∀ p ∈ qs, Pc.n p ≤ Pc.c p)) (h1 : n ≤ c ∧ Sl W W.heap.size 1 E n (z.map (.int .u8)) ∧ ByOk z) :
    Calls Try.prog 7 #[.agg (pfC k (.slice A N C) (.slice B M D)).toArray, .slice E n c] W fun e W' => e = .returned (.bool true) ∧ Below W.heap.size W W' :=
  lproofs_any W k h0.1 A N C zs h0.2.1.1 h0.2.1.2.1 B M D qs h0.2.2.1 h0.2.2.2.1 h0.2.2.2.2.1 h0.2.2.2.2.2.1 E n c z h1.2.2 h1.2.1 h1.1
end Go.Proofs.Ytbclfjdamklbpaa
