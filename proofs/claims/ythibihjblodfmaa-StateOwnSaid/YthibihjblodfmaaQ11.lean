/- A thing, read off bytes. -/
import Derived.Test.YthibihjblodfmaaQ10
import Derived.Test.YthibihjblodfmaaQ7
namespace Go.Proofs.Ythibihjblodfmaa
open Go.RowKit

structure Tg where
  k : Int
  n : Int
  m : Int
  t : List Int
  u : List Int
  v : List Int
  ps : List Int
  qs : List Int
  ss : List Int
def tg0 : Tg := ⟨0, 0, 0, zeroD, zeroD, zeroD, [], [], []⟩
def decEnd (s : Rd) (T : List Int → Tg) : Tg × Int := if endR (someR s 4096).1 = 0 then (T (someR s 4096).2, 0) else (tg0, endR (someR s 4096).1)
def decP1 (k : Int) (s : Rd) (t : List Int) (n : Int) : Tg × Int :=
  if k = 0 then decEnd (someR s 4096).1 (fun ss => ⟨k, n, 0, t, zeroD, zeroD, (someR s 4096).2, [], ss⟩)
  else if (digD s).2.2 = 0 then decEnd (someR (digD s).1 4096).1 (fun ss => ⟨k, 0, n, zeroD, t, (digD s).2.1, [], (someR (digD s).1 4096).2, ss⟩) else (tg0, (digD s).2.2)
def decP (bs : List Int) : Tg × Int :=
  if (digD (numR ⟨bs, 0⟩ 1).1).2.2 = 0 then decP1 (numR ⟨bs, 0⟩ 1).2 (numR (digD (numR ⟨bs, 0⟩ 1).1).1 1099511627776).1 (digD (numR ⟨bs, 0⟩ 1).1).2.1 (numR (digD (numR ⟨bs, 0⟩ 1).1).1 1099511627776).2
  else (tg0, (digD (numR ⟨bs, 0⟩ 1).1).2.2)
def RetP (o : Tg × Int) (w : World) (e : Ending) (w' : World) : Prop :=
  ∃ (A1 A2 A3 : Option Addr) (N1 N2 N3 C1 C2 C3 : Nat), e = .returned (.tuple #[.agg (thC o.1.k o.1.n o.1.m o.1.t o.1.u o.1.v (.slice A1 N1 C1) (.slice A2 N2 C2) (.slice A3 N3 C3)).toArray, .int .i64 o.2]) ∧
    Sls w' w'.heap.size A1 A2 A3 N1 N2 N3 o.1.ps o.1.qs o.1.ss ∧ Below w.heap.size w w'
theorem some_ok {s : Rd} {m : Int} (hs : ByOk s.rest) : ByOk (someR s m).2 := by
  unfold someR
  split
  · split
    · split
      · split
        · exact (hs.drop _).take _
        · exact fun b hb => by cases hb
      · exact fun b hb => by cases hb
    · exact fun b hb => by cases hb
  · exact fun b hb => by cases hb
theorem byOk_nil : ByOk [] := fun b hb => by cases hb
theorem RetP.fail {w w' : World} {e : Int} {o : Tg × Int} (ho : o = (tg0, e)) (hb : Below w.heap.size w w') : RetP o w (.returned (.tuple #[.agg (thC 0 0 0 zeroD zeroD zeroD (.slice none 0 0) (.slice none 0 0) (.slice none 0 0)).toArray, .int .i64 e])) w' := by
  subst ho
  exact ⟨none, none, none, 0, 0, 0, 0, 0, 0, rfl, ⟨Sl.nil, Sl.nil, Sl.nil, byOk_nil, byOk_nil, byOk_nil⟩, hb⟩
theorem num_rng {s : Rd} (hs : ByOk s.rest) {most : Int} (hm : 0 ≤ most) : 0 ≤ (numR s most).2 ∧ (numR s most).2 ≤ most := by
  unfold numR
  split
  · split
    · rename_i h1 h2
      have := look_pos h2 hs
      split
      · rename_i h3; exact ⟨this.1, h3⟩
      · exact ⟨Int.le_refl _, hm⟩
    · exact ⟨Int.le_refl _, hm⟩
  · exact ⟨Int.le_refl _, hm⟩
theorem rd_ne {w : World} {g L base n : Nat} {s : Rd} {v : Value} {xs : List Value} (h : RdAt w g L s) (ho : w.ownsRow base 5 1 v n xs) : v.ownBlock ≠ some g := by
  obtain ⟨A, n, c, bs, k, h1, _⟩ := h
  exact own_bk_ne ho h1 (by decide)
theorem build_th0 (k : Int) (w : World) : (Instr.build 35 #[(0, .int .i64 k)]).run Try.prog w = .ok (.agg (thC k 0 0 zeroD zeroD zeroD (.slice none 0 0) (.slice none 0 0) (.slice none 0 0)).toArray) w := by
  kernel_rfl
theorem z_tb (W : World) : (Instr.build 35 #[]).run Try.prog W = .ok (.agg (thC 0 0 0 zeroD zeroD zeroD (.slice none 0 0) (.slice none 0 0) (.slice none 0 0)).toArray) W := by kernel_rfl
theorem dec_ret {w : World} {g : Nat} {cs : List Value} {n : Int} (hl : cs.length = 30) (h : Bk w g 35 cs) (tmps : Array Value) (h2 : tmps.getD 2 undef = .pointer (some ⟨g, 0, none⟩)) (h3 : tmps.getD 3 undef = .int .i64 n) :
    (results Try.f20 tmps).run Try.prog w = .ok (.tuple #[.agg cs.toArray, .int .i64 n]) w := by
  have r1 : w.rangeAt g 0 cs := Bk.range (pre := []) (post := []) (by simpa using h) rfl
  have l1 := run_loadVar_mid (P := Try.prog) w g 0 35 cs _ r1 Try.underlying35 rfl (by rw [hl]; exact th_size)
  rw [Array.getD_eq_getD_getElem?] at h2 h3
  simp [results, Try.results20, h2, h3, asAddr, l1]
set_option maxRecDepth 20000 in
set_option maxHeartbeats 8000000 in
theorem pdecode_any (w : World) (A : Option Addr) (n c : Nat) (bs : List Int) (ho : ByOk bs) (hs : Sl w w.heap.size 1 A n (bs.map (.int .u8))) (hn : n ≤ 1073741824) :
    Calls Try.prog 20 #[.slice A n c] w (RetP (decP bs) w) := by
  obtain ⟨w1, hw1⟩ : ∃ w1, w.alloc (.cells #[.int .i64 0, .int .u8 0, .int .u8 0, .int .u8 0, .int .u8 0, .int .u8 0, .int .u8 0, .int .u8 0, .int .u8 0, .int .i64 0, .slice none 0 0, .int .u8 0, .int .u8 0, .int .u8 0, .int .u8 0, .int .u8 0, .int .u8 0, .int .u8 0, .int .u8 0, .int .i64 0, .int .u8 0, .int .u8 0, .int .u8 0, .int .u8 0, .int .u8 0, .int .u8 0, .int .u8 0, .int .u8 0, .slice none 0 0, .slice none 0 0] 35) = w1 := ⟨_, rfl⟩
  have hb1 : Below w.heap.size w w1 := hw1 ▸ below_new w _
  have hz1 : w1.heap.size = w.heap.size + 1 := by rw [← hw1]; simp
  obtain ⟨z0, hz0⟩ : ∃ z0, thC 0 0 0 zeroD zeroD zeroD (.slice none 0 0) (.slice none 0 0) (.slice none 0 0) = z0 := ⟨_, rfl⟩
  have kz : Bk w1 w.heap.size 35 z0 := by rw [← hw1, ← hz0]; exact Bk.new' w _ #[.int .i64 0, .int .u8 0, .int .u8 0, .int .u8 0, .int .u8 0, .int .u8 0, .int .u8 0, .int .u8 0, .int .u8 0, .int .i64 0, .slice none 0 0, .int .u8 0, .int .u8 0, .int .u8 0, .int .u8 0, .int .u8 0, .int .u8 0, .int .u8 0, .int .u8 0, .int .i64 0, .int .u8 0, .int .u8 0, .int .u8 0, .int .u8 0, .int .u8 0, .int .u8 0, .int .u8 0, .int .u8 0, .slice none 0 0, .slice none 0 0] rfl
  have HW := Lib.hid hw1; have HB1 := Lib.hid hb1; have HZ1 := Lib.hid kz; have HZZ := Lib.hid hz0
  have HO := Lib.hid ho; have HS := Lib.hid (hs.later hb1)
  have HZ30 : Hid (z0.length = 30) := by show _ = _; rw [← hz0]; rfl
  have HZS : Hid ((Try.prog.info? 35).map (·.size) = some z0.length) := by show _ = _; rw [HZ30.out]; exact th_size
  obtain ⟨o, hdec⟩ : ∃ o, decP bs = o := ⟨_, rfl⟩
  have HDEC := Lib.hid hdec
  rw [hdec]
  clear hw1 hb1 kz hz0 ho hs hdec
  go_enter Try.func20, Try.ntmps20
  go_upto_region 1 with fail
  rw [HW.out]
  go_wp2_with fail
  refine (newReader_any _ A n c bs HO.out HS.out hn).mono ?_
  rintro e w2 ⟨⟨g, rfl, hgl, hrd⟩, hb2⟩
  have hrg : w.heap.size < g := by omega
  have HB2 := Lib.hid (below_then HB1.out hb2)
  have HZ2 := Lib.hid (HZ1.out.later hb2)
  have HR2 := Lib.hid hrd
  clear hb2 hrd
  go_wp2_with fail
  refine (rdNum_any _ g _ HR2.out 1).mono ?_
  rintro e w3 ⟨rfl, hrd, hgr⟩
  obtain ⟨a, ha⟩ : ∃ a, numR ⟨bs, 0⟩ 1 = a := ⟨_, rfl⟩
  rw [ha] at hrd ⊢
  have har : 0 ≤ a.2 ∧ a.2 ≤ 1 := ha ▸ num_rng (s := ⟨bs, 0⟩) HO.out (by omega)
  have HA := Lib.hid ha
  have HZ3 := Lib.hid (HZ2.out.grown hgr (by intro h; injection h with h; omega))
  try have HT3 := Lib.hid (HT2.out.grown hgr (by intro h; injection h with h; omega))
  try have HD3 := Lib.hid (HD2.out.grown hgr (by intro h; injection h with h; omega))
  try have HE3 := Lib.hid (HE2.out.grown hgr (by intro h; injection h with h; omega))
  try have HP3 := Lib.hid (own_only HP2.out hgr (rd_ne HR2.out HP2.out))
  have HB3 := Lib.hid (HB2.out.grown hgr HB2.out.size (fun q hq => by injection hq with hq; omega))
  have hz3 : w2.heap.size ≤ w3.heap.size := hgr.size
  have HR3 := Lib.hid hrd
  have hg3 : g < w3.heap.size := hrd.lt
  clear hgr hrd ha
  have hkw : IntKind.i64.wrap a.2 = a.2 := IntWalk.i64_in _ (by omega)
  have HBT := Lib.hid (build_th0 a.2)
  obtain ⟨y0, hy0⟩ : ∃ y0, thC a.2 0 0 zeroD zeroD zeroD (.slice none 0 0) (.slice none 0 0) (.slice none 0 0) = y0 := ⟨_, rfl⟩
  rw [hy0] at HBT
  have HYS : Hid ((Try.prog.info? 35).map (·.size) = some y0.length) := by show _ = _; rw [← hy0]; exact th_size
  have HYL : Hid (z0.length = y0.length) := by show _ = _; rw [HZ30.out, ← hy0]; rfl
  have HY1 : Hid (∀ v ∈ y0, v.oneCell' = true) := by show ∀ v ∈ y0, v.oneCell' = true; rw [← hy0]; exact th_one
  have HYY := Lib.hid hy0
  clear hy0
  go_wp2_with (first
    | (with_reducible refine wpList_build rfl 35 _ rfl #[(0, .int .i64 a.2)] (by simp [Act.eval]) (.agg y0.toArray) (HBT.out _) ?_)
    | (with_reducible refine stop_store 35 _ _ rfl ?_))
  refine StopD.go ?_
  obtain ⟨T, hT⟩ : ∃ T, w3.heap.size = T := ⟨_, rfl⟩
  have hbn : Below w3.heap.size w3 (w3.alloc (.cells #[.int .i64 0, .int .u8 0, .int .u8 0, .int .u8 0, .int .u8 0, .int .u8 0, .int .u8 0, .int .u8 0, .int .u8 0, .int .i64 0, .slice none 0 0, .int .u8 0, .int .u8 0, .int .u8 0, .int .u8 0, .int .u8 0, .int .u8 0, .int .u8 0, .int .u8 0, .int .i64 0, .int .u8 0, .int .u8 0, .int .u8 0, .int .u8 0, .int .u8 0, .int .u8 0, .int .u8 0, .int .u8 0, .slice none 0 0, .slice none 0 0] 35)) := below_new w3 _
  have kt : Bk (w3.alloc (.cells #[.int .i64 0, .int .u8 0, .int .u8 0, .int .u8 0, .int .u8 0, .int .u8 0, .int .u8 0, .int .u8 0, .int .u8 0, .int .i64 0, .slice none 0 0, .int .u8 0, .int .u8 0, .int .u8 0, .int .u8 0, .int .u8 0, .int .u8 0, .int .u8 0, .int .u8 0, .int .i64 0, .int .u8 0, .int .u8 0, .int .u8 0, .int .u8 0, .int .u8 0, .int .u8 0, .int .u8 0, .int .u8 0, .slice none 0 0, .slice none 0 0] 35)) T 35 ([] ++ (z0 ++ [])) := by rw [← hT, ← HZZ.out]; exact Bk.new' w3 _ #[.int .i64 0, .int .u8 0, .int .u8 0, .int .u8 0, .int .u8 0, .int .u8 0, .int .u8 0, .int .u8 0, .int .u8 0, .int .i64 0, .slice none 0 0, .int .u8 0, .int .u8 0, .int .u8 0, .int .u8 0, .int .u8 0, .int .u8 0, .int .u8 0, .int .u8 0, .int .i64 0, .int .u8 0, .int .u8 0, .int .u8 0, .int .u8 0, .int .u8 0, .int .u8 0, .int .u8 0, .int .u8 0, .slice none 0 0, .slice none 0 0] rfl
  rw [hT]
  refine wpList_store_part rfl 35 _ _ rfl T 0 (.agg y0.toArray) y0 rfl rfl rfl 35 [] z0 [] kt rfl HYL.out HYS.out HY1.out ?_
  intro w4 hp4
  have hbn : Below w3.heap.size w3 w4 := hbn.grown hp4.only hbn.size (fun q hq => by injection hq with hq; omega)
  have hT4 : T < w4.heap.size := hp4.bk.lt
  have HT4 : Hid (Bk w4 T 35 y0) := by show Bk _ _ _ _; have := hp4.bk; simpa using this
  have hgT : g < T := by omega
  clear hp4 kt hT
  have HZ4 := Lib.hid (HZ3.out.later hbn)
  try have HT4 := Lib.hid (HT3.out.later hbn)
  try have HD4 := Lib.hid (HD3.out.later hbn)
  try have HP4 := Lib.hid (own_keep HP3.out hbn)
  try have HE4 := Lib.hid (HE3.out.later hbn)
  try have HS4 := Lib.hid (own_keep HS3.out hbn)
  have HB4 := Lib.hid (below_then HB3.out hbn)
  have HR4 := Lib.hid (HR3.out.later hbn)
  have hz4 : w3.heap.size ≤ w4.heap.size := hbn.size
  clear hbn
  go_wp2_with fail
  refine (digest_any _ g a.1 HR4.out (by omega)).mono ?_
  obtain ⟨b, hb⟩ : ∃ b, digD a.1 = b := ⟨_, rfl⟩
  rw [hb]
  rintro e w5 ⟨rfl, hrd, hgr⟩
  have HBO : Hid (DgOk b.2.1) := by show DgOk _; rw [← hb]; exact digD_ok HR4.out.ok
  have HBB := Lib.hid hb
  have HZ5 := Lib.hid (HZ4.out.grown hgr (by intro h; injection h with h; omega))
  try have HT5 := Lib.hid (HT4.out.grown hgr (by intro h; injection h with h; omega))
  try have HD5 := Lib.hid (HD4.out.grown hgr (by intro h; injection h with h; omega))
  try have HE5 := Lib.hid (HE4.out.grown hgr (by intro h; injection h with h; omega))
  try have HP5 := Lib.hid (own_only HP4.out hgr (rd_ne HR4.out HP4.out))
  have HB5 := Lib.hid (HB4.out.grown hgr HB4.out.size (fun q hq => by injection hq with hq; omega))
  have hz5 : w4.heap.size ≤ w5.heap.size := hgr.size
  have HR5 := Lib.hid hrd
  clear hgr hrd hb
  have HB8 := Lib.hid (dg_sz HBO.out)
  go_wp2_with (with_reducible refine stop_store 29 _ _ rfl ?_)
  refine StopD.go ?_
  obtain ⟨q6, hq6⟩ : ∃ q, w5.heap.size = q := ⟨_, rfl⟩
  have hbn : Below w5.heap.size w5 (w5.alloc (.cells #[.int .u8 0, .int .u8 0, .int .u8 0, .int .u8 0, .int .u8 0, .int .u8 0, .int .u8 0, .int .u8 0] 29)) := below_new w5 _
  have kt : Bk (w5.alloc (.cells #[.int .u8 0, .int .u8 0, .int .u8 0, .int .u8 0, .int .u8 0, .int .u8 0, .int .u8 0, .int .u8 0] 29)) q6 29 ([] ++ (dl zeroD ++ [])) := by rw [← hq6]; exact Bk.new' w5 _ #[.int .u8 0, .int .u8 0, .int .u8 0, .int .u8 0, .int .u8 0, .int .u8 0, .int .u8 0, .int .u8 0] rfl
  rw [hq6]
  refine wpList_store_part rfl 29 _ _ rfl q6 0 (.agg (dl b.2.1).toArray) (dl b.2.1) rfl rfl rfl 29 [] (dl zeroD) [] kt rfl (by rw [dl_len, dl_len, HBO.out.len]; rfl) HB8.out (dl_one b.2.1) ?_
  intro w6 hp6
  have hbn : Below w5.heap.size w5 w6 := hbn.grown hp6.only hbn.size (fun q hq => by injection hq with hq; omega)
  have hq66 : q6 < w6.heap.size := hp6.bk.lt
  have HD6 : Hid (Bk w6 q6 29 (dl b.2.1)) := by show Bk _ _ _ _; have := hp6.bk; simpa using this
  have hTq : T < q6 := by omega
  clear hp6 kt hq6
  have HZ6 := Lib.hid (HZ5.out.later hbn)
  try have HT6 := Lib.hid (HT5.out.later hbn)
  try have HD6 := Lib.hid (HD5.out.later hbn)
  try have HP6 := Lib.hid (own_keep HP5.out hbn)
  try have HE6 := Lib.hid (HE5.out.later hbn)
  try have HS6 := Lib.hid (own_keep HS5.out hbn)
  have HB6 := Lib.hid (below_then HB5.out hbn)
  have HR6 := Lib.hid (HR5.out.later hbn)
  have hz6 : w5.heap.size ≤ w6.heap.size := hbn.size
  clear hbn
  have HBZ := Lib.hid z_tb
  rw [HZZ.out] at HBZ
  have HZ1C : Hid (∀ v ∈ z0, v.oneCell' = true) := by show ∀ v ∈ z0, v.oneCell' = true; rw [← HZZ.out]; exact th_one
  by_cases he : b.2.2 = 0
  · have he1 : (b.2.2 != 0) = false := by simp [he]
    have HDE : Hid (decP1 a.2 (numR b.1 1099511627776).1 b.2.1 (numR b.1 1099511627776).2 = o) := by show _ = _; rw [← HDEC.out, decP, HA.out, HBB.out, if_pos he]
    clear he
    go_wp2_with fail
    refine (rdNum_any _ g b.1 HR6.out 1099511627776).mono ?_
    rintro e w7 ⟨rfl, hrd, hgr⟩
    obtain ⟨d, hd⟩ : ∃ d, numR b.1 1099511627776 = d := ⟨_, rfl⟩
    rw [hd] at hrd HDE ⊢
    have hdr : 0 ≤ d.2 ∧ d.2 ≤ 1099511627776 := hd ▸ num_rng HR6.out.ok (by omega)
    have HZ7 := Lib.hid (HZ6.out.grown hgr (by intro h; injection h with h; omega))
    try have HT7 := Lib.hid (HT6.out.grown hgr (by intro h; injection h with h; omega))
    try have HD7 := Lib.hid (HD6.out.grown hgr (by intro h; injection h with h; omega))
    try have HE7 := Lib.hid (HE6.out.grown hgr (by intro h; injection h with h; omega))
    try have HP7 := Lib.hid (own_only HP6.out hgr (rd_ne HR6.out HP6.out))
    have HB7 := Lib.hid (HB6.out.grown hgr HB6.out.size (fun q hq => by injection hq with hq; omega))
    have hz7 : w6.heap.size ≤ w7.heap.size := hgr.size
    have HR7 := Lib.hid hrd
    clear hgr hrd hd
    have hdw : IntKind.i64.wrap d.2 = d.2 := IntWalk.i64_in _ (by omega)
    have hmem := HT7.out
    rw [← HYY.out] at hmem
    have HT7 := Lib.hid hmem
    have c0 := (th_mem zero_ok zero_ok zero_ok hmem).c0
    clear hmem
    by_cases hk : a.2 = 0
    · have hk1 : (a.2 == 0) = true := by simp [hk]
      have HDE2 : Hid (decEnd (someR d.1 4096).1 (fun ss => ⟨a.2, d.2, 0, b.2.1, zeroD, zeroD, (someR d.1 4096).2, [], ss⟩) = o) := by show _ = _; rw [← HDE.out, decP1, if_pos hk]
      clear hk HDE
      go_wp2_with fail
      refine wp_region_held_drew (S := fun w' => Bk w' q6 29 (dl b.2.1)) (by kernel_rfl) (Bk.drew HD7.out) (fun hHeld => ?_)
      refine wpAnyH_take (i := 0) (v := .agg (List.toArray (dl b.2.1))) rfl (by kernel_rfl) (by kernel_rfl) (by kernel_rfl) (fun _ _ _ h => h) (yieldsIf_load_mid (by rfl) _ _ rfl _ _ rfl (dl b.2.1) _ (fun w hSw => (Bk.range (pre := []) (post := []) (by simpa using hSw) rfl)) Try.underlying29 rfl (HB8.out)) (by assumption) ?_
      try simp only [Act.put, List.setIfInBounds_toArray, List.set_cons_zero, List.set_cons_succ, List.getElem_toArray, List.getElem_cons_zero]
      refine wpAnyH_take (i := 1) (v := ?_) rfl (by kernel_rfl) (by kernel_rfl) (by kernel_rfl) (fun _ _ _ h => h) (Or.inl ⟨by rfl, ?_⟩) (by assumption) ?_
      rotate_left
      · intro w hSw
        (try dsimp only at hSw)
        go_simp
        try with_reducible rfl
      try simp only [Act.put, List.setIfInBounds_toArray, List.set_cons_zero, List.set_cons_succ, List.getElem_toArray, List.getElem_cons_zero, List.getElem_cons_succ]
      refine wpAnyH_take (i := 2) (v := ?_) rfl (by kernel_rfl) (by kernel_rfl) (by kernel_rfl) (fun _ _ _ h => h) (Or.inl ⟨by rfl, ?_⟩) (by assumption) ?_
      rotate_left
      · intro w hSw
        (try dsimp only at hSw)
        go_simp
        try with_reducible rfl
      try simp only [Act.put, List.setIfInBounds_toArray, List.set_cons_zero, List.set_cons_succ, List.getElem_toArray, List.getElem_cons_zero, List.getElem_cons_succ]
      refine wpAnyH_ready (rs := [3]) (by kernel_rfl) (by simp) ?_
      refine AllReadyH.cons rfl (fun K hK => ?_) AllReadyH.nil
      go_simp
      (go_at_call 72; refine (rdBytes_any _ g d.1 (HR7.out.later (below_draws w7 w7.heap.size 1)) 4096 (by omega) (by omega)).mono ?_; obtain ⟨f, hf⟩ : ∃ f, someR d.1 4096 = f := ⟨_, rfl⟩; rw [hf]; rintro e w8 ⟨v8, rfl, hown, hrd, hgr'⟩; have hgr : w7.grownBy w8 (some g) := only_trans (only_drew (only_refl' w7 _)) hgr'; obtain ⟨A8, c8, rfl⟩ := own_form hown; have HF := Lib.hid hf; have HR8 := Lib.hid hrd; have HP8 := Lib.hid hown; clear hown hrd hgr' hf)
      refine hK.out _ _ ((HD7.out.grown hgr (by intro h; injection h with h; omega))) (fun hHeld => ?_)
      clear hK K
      try simp only [Act.put, List.setIfInBounds_toArray, List.set_cons_zero, List.set_cons_succ, List.getElem_toArray, List.getElem_cons_zero, List.getElem_cons_succ]
      have HZ8 := Lib.hid (HZ7.out.grown hgr (by intro h; injection h with h; omega))
      try have HT8 := Lib.hid (HT7.out.grown hgr (by intro h; injection h with h; omega))
      try have HD8 := Lib.hid (HD7.out.grown hgr (by intro h; injection h with h; omega))
      try have HE8 := Lib.hid (HE7.out.grown hgr (by intro h; injection h with h; omega))
      try have HP8 := Lib.hid (own_only HP7.out hgr (rd_ne HR7.out HP7.out))
      have HB8 := Lib.hid (HB7.out.grown hgr HB7.out.size (fun q hq => by injection hq with hq; omega))
      have hz8 : w7.heap.size ≤ w8.heap.size := hgr.size
      clear hgr
      refine wpAnyH_take (i := 4) (v := .agg (List.toArray (staC d.2 b.2.1 (.slice A8 f.2.length c8)))) rfl (by kernel_rfl) (by kernel_rfl) (by kernel_rfl) (fun _ _ _ h => h) (yieldsIf_build (by rfl) _ _ rfl #[(0, .agg (dl b.2.1).toArray), (1, .int .i64 d.2), (2, .slice A8 f.2.length c8)] (by simp [Act.eval]) _ (build_st d.2 b.2.1 HBO.out A8 f.2.length c8)) (by assumption) ?_
      try simp only [Act.put, List.setIfInBounds_toArray, List.set_cons_zero, List.set_cons_succ, List.getElem_toArray, List.getElem_cons_zero, List.getElem_cons_succ]
      refine wpAnyH_take (i := 5) (v := ?_) rfl (by kernel_rfl) (by kernel_rfl) (by kernel_rfl) (fun _ _ _ h => h) (Or.inl ⟨by rfl, ?_⟩) (by assumption) ?_
      rotate_left
      · intro w hSw
        (try dsimp only at hSw)
        go_simp
        try with_reducible rfl
      try simp only [Act.put, List.setIfInBounds_toArray, List.set_cons_zero, List.set_cons_succ, List.getElem_toArray, List.getElem_cons_zero, List.getElem_cons_succ]
      refine wpAnyH_ready (rs := [6]) (by kernel_rfl) (by simp) ?_
      refine AllReadyH.cons rfl (fun K hK => ?_) AllReadyH.nil
      rw [if_pos (by rfl)]
      refine wp_store_part _ _ _ rfl T 1 _ (staC d.2 b.2.1 (.slice A8 f.2.length c8)) rfl rfl rfl _ ([.int .i64 a.2]) (staC 0 zeroD (.slice none 0 0)) ((actC 0 zeroD zeroD (.slice none 0 0) ++ [.slice none 0 0])) HT8.out rfl (by rw [staC_len zero_ok, staC_len HBO.out]) (by rw [staC_len HBO.out]; exact st_size) st_one ?_
      intro w9 hp9
      refine hK.out _ _ (HD8.out.grown hp9.only (by intro h; injection h with h; omega)) (fun hHeld => ?_)
      clear hK K
      try simp only [Act.put, List.getElem_toArray, List.getElem_cons_zero, List.getElem_cons_succ]
      refine wpAnyH_done (by kernel_rfl) ?_ _
      clear hHeld
      have HT9 : Hid (Bk w9 T 35 (thC a.2 d.2 0 b.2.1 zeroD zeroD (.slice A8 f.2.length c8) (.slice none 0 0) (.slice none 0 0))) := hp9.bk
      have hgr := hp9.only
      have HZ9 := Lib.hid (HZ8.out.grown hgr (by intro h; injection h with h; omega))
      have HP9 := Lib.hid (own_only HP8.out hgr (own_bk_ne HP8.out HT8.out (by decide)))
      try have HS9 := Lib.hid (own_only HS8.out hgr (own_bk_ne HS8.out HT8.out (by decide)))
      have HR9 := Lib.hid (HR8.out.only hgr (by omega) (by omega))
      have HB9 := Lib.hid (HB8.out.grown hgr HB8.out.size (fun q hq => by injection hq with hq; omega))
      have hz9 : w8.heap.size ≤ w9.heap.size := hgr.size
      clear hgr hp9
      have HFO : Hid (ByOk f.2) := by show ByOk _; rw [← HF.out]; exact some_ok HR7.out.ok
      have HDE3 : Hid (decEnd f.1 (fun ss => ⟨a.2, d.2, 0, b.2.1, zeroD, zeroD, f.2, [], ss⟩) = o) := by show _ = _; rw [← HDE2.out, HF.out]
      go_wp2_with fail
      refine (rdBytes_any _ g f.1 HR9.out 4096 (by omega) (by omega)).mono ?_
      obtain ⟨h, hh⟩ : ∃ h, someR f.1 4096 = h := ⟨_, rfl⟩
      rw [hh]
      rintro e w10 ⟨vs, rfl, hown, hrd, hgr⟩
      obtain ⟨A10, c10, rfl⟩ := own_form hown
      have HHO : Hid (ByOk h.2) := by show ByOk _; rw [← hh]; exact some_ok HR9.out.ok
      have HZ10 := Lib.hid (HZ9.out.grown hgr (by intro h; injection h with h; omega))
      try have HT10 := Lib.hid (HT9.out.grown hgr (by intro h; injection h with h; omega))
      try have HD10 := Lib.hid (HD9.out.grown hgr (by intro h; injection h with h; omega))
      try have HE10 := Lib.hid (HE9.out.grown hgr (by intro h; injection h with h; omega))
      try have HP10 := Lib.hid (own_only HP9.out hgr (rd_ne HR9.out HP9.out))
      have HB10 := Lib.hid (HB9.out.grown hgr HB9.out.size (fun q hq => by injection hq with hq; omega))
      have hz10 : w9.heap.size ≤ w10.heap.size := hgr.size
      have HR10 := Lib.hid hrd
      have HS10 := Lib.hid hown
      have HHH := Lib.hid hh
      clear hown hrd hgr hh
      go_wp2_with (with_reducible refine stop_store 23 _ _ rfl ?_)
      refine StopD.go ?_
      refine wpList_store_part rfl 23 _ _ rfl T 29 (.slice A10 h.2.length c10) [.slice A10 h.2.length c10] rfl rfl rfl 35 (.int .i64 a.2 :: (staC d.2 b.2.1 (.slice A8 f.2.length c8) ++ actC 0 zeroD zeroD (.slice none 0 0))) [.slice none 0 0] [] (by have := HT10.out; simpa [thC] using this) (by rw [List.length_cons, List.length_append, staC_len HBO.out, actC_len zero_ok zero_ok]) rfl (by kernel_rfl) (by intro v hv; simp at hv; subst hv; rfl) ?_
      intro w11 hp
      obtain ⟨y3, hy3⟩ : ∃ y3, thC a.2 d.2 0 b.2.1 zeroD zeroD (.slice A8 f.2.length c8) (.slice none 0 0) (.slice A10 h.2.length c10) = y3 := ⟨_, rfl⟩
      have HT11 : Hid (Bk w11 T 35 y3) := by show Bk _ _ _ _; rw [← hy3]; have := hp.bk; simpa [thC] using this
      have hgr := hp.only
      have HZ11 := Lib.hid (HZ10.out.grown hgr (by intro h; injection h with h; omega))
      have HP11 := Lib.hid (own_only HP10.out hgr (own_bk_ne HP10.out HT10.out (by decide)))
      try have HS11 := Lib.hid (own_only HS10.out hgr (own_bk_ne HS10.out HT10.out (by decide)))
      have HR11 := Lib.hid (HR10.out.only hgr (by omega) (by omega))
      have HB11 := Lib.hid (HB10.out.grown hgr HB10.out.size (fun q hq => by injection hq with hq; omega))
      have hz11 : w10.heap.size ≤ w11.heap.size := hgr.size
      have HY3 := Lib.hid hy3
      have HY30 : Hid (y3.length = 30) := by show _ = _; rw [← hy3, thC_len HBO.out zero_ok zero_ok]
      have HY3S : Hid ((Try.prog.info? 35).map (·.size) = some y3.length) := by show _ = _; rw [HY30.out]; exact th_size
      have HY31 : Hid (∀ v ∈ y3, v.oneCell' = true) := by show ∀ v ∈ y3, v.oneCell' = true; rw [← hy3]; exact th_one
      clear hp hgr hy3
      go_wp2_with fail
      refine (rdEnd_any _ g h.1 HR11.out).mono ?_
      rintro e w12 ⟨rfl, q, hq⟩
      have hbn : Below w11.heap.size w11 w12 := hq ▸ below_draws w11 w11.heap.size q
      clear hq
      have HZ12 := Lib.hid (HZ11.out.later hbn)
      try have HT12 := Lib.hid (HT11.out.later hbn)
      try have HD12 := Lib.hid (HD11.out.later hbn)
      try have HP12 := Lib.hid (own_keep HP11.out hbn)
      try have HE12 := Lib.hid (HE11.out.later hbn)
      try have HS12 := Lib.hid (own_keep HS11.out hbn)
      have HB12 := Lib.hid (below_then HB11.out hbn)
      have HR12 := Lib.hid (HR11.out.later hbn)
      have hz12 : w11.heap.size ≤ w12.heap.size := hbn.size
      clear hbn
      by_cases hE : endR h.1 = 0
      · have hE1 : (endR h.1 != 0) = false := by simp [hE]
        have HOO : Hid (o = (⟨a.2, d.2, 0, b.2.1, zeroD, zeroD, f.2, [], h.2⟩, 0)) := by show _ = _; rw [← HDE3.out, decEnd, HHH.out, if_pos hE]
        clear hE
        go_wp2_with (first
          | (with_reducible refine wpList_load_bk rfl 35 _ rfl T rfl y3 35 HT12.out _ Try.underlying35 rfl HY3S.out ?_)
          | (with_reducible refine stop_store 35 _ _ rfl ?_))
        refine StopD.go ?_
        refine wpList_store_part rfl 35 _ _ rfl w.heap.size 0 (.agg y3.toArray) y3 rfl rfl rfl 35 [] z0 [] (by have := HZ12.out; simpa using this) rfl (by rw [HZ30.out, HY30.out]) HY3S.out HY31.out ?_
        intro w13 hp
        have HZ13 : Hid (Bk w13 w.heap.size 35 y3) := by show Bk _ _ _ _; have := hp.bk; simpa using this
        have HB13 := Lib.hid (HB12.out.grown hp.only HB12.out.size (fun q hq => by injection hq with hq; omega))
        have HP13 := Lib.hid (own_only HP12.out hp.only (own_bk_ne HP12.out HZ12.out (by decide)))
        have HS13 := Lib.hid (own_only HS12.out hp.only (own_bk_ne HS12.out HZ12.out (by decide)))
        clear hp
        go_wp2_with fail
        refine bodyPost_ret (dec_ret HY30.out HZ13.out _ rfl rfl) rfl ?_
        rw [HOO.out, ← HY3.out]
        exact ⟨A8, none, A10, f.2.length, 0, h.2.length, c8, 0, c10, rfl, ⟨Sl.of_own HP13.out, Sl.nil, Sl.of_own HS13.out, HFO.out, byOk_nil, HHO.out⟩, HB13.out⟩
      · have hE1 : (endR h.1 != 0) = true := by simp [hE]
        have HOO : Hid (o = (tg0, endR h.1)) := by show _ = _; rw [← HDE3.out, decEnd, HHH.out, if_neg hE]
        clear hE
        go_wp2_with (first
          | (with_reducible refine wpList_build rfl 35 _ rfl #[] (by simp [Act.eval]) (.agg z0.toArray) (HBZ.out _) ?_)
          | (with_reducible refine stop_store 35 _ _ rfl ?_))
        refine StopD.go ?_
        refine wpList_store_part rfl 35 _ _ rfl w.heap.size 0 (.agg z0.toArray) z0 rfl rfl rfl 35 [] z0 [] (by have := HZ12.out; simpa using this) rfl rfl HZS.out HZ1C.out ?_
        intro w13 hp
        have HZ13 : Hid (Bk w13 w.heap.size 35 z0) := by show Bk _ _ _ _; have := hp.bk; simpa using this
        have HB13 := Lib.hid (HB12.out.grown hp.only HB12.out.size (fun q hq => by injection hq with hq; omega))
        clear hp
        go_wp2_with fail
        refine bodyPost_ret (dec_ret HZ30.out HZ13.out _ rfl rfl) rfl ?_
        rw [← HZZ.out]
        exact RetP.fail HOO.out HB13.out
    · have hk1 : (a.2 == 0) = false := by simp [hk]
      go_wp2_with fail
      refine (digest_any _ g d.1 HR7.out (by omega)).mono ?_
      obtain ⟨x, hx⟩ : ∃ x, digD d.1 = x := ⟨_, rfl⟩
      rw [hx]
      rintro e w71 ⟨rfl, hrd, hgr⟩
      have HXO : Hid (DgOk x.2.1) := by show DgOk _; rw [← hx]; exact digD_ok HR7.out.ok
      have HXX := Lib.hid hx
      have HZ71 := Lib.hid (HZ7.out.grown hgr (by intro h; injection h with h; omega))
      try have HT71 := Lib.hid (HT7.out.grown hgr (by intro h; injection h with h; omega))
      try have HD71 := Lib.hid (HD7.out.grown hgr (by intro h; injection h with h; omega))
      try have HE71 := Lib.hid (HE7.out.grown hgr (by intro h; injection h with h; omega))
      try have HP71 := Lib.hid (own_only HP7.out hgr (rd_ne HR7.out HP7.out))
      have HB71 := Lib.hid (HB7.out.grown hgr HB7.out.size (fun q hq => by injection hq with hq; omega))
      have hz71 : w7.heap.size ≤ w71.heap.size := hgr.size
      have HR71 := Lib.hid hrd
      clear hgr hrd hx
      have HX8 := Lib.hid (dg_sz HXO.out)
      go_wp2_with (with_reducible refine stop_store 29 _ _ rfl ?_)
      refine StopD.go ?_
      obtain ⟨q9, hq9⟩ : ∃ q, w71.heap.size = q := ⟨_, rfl⟩
      have hbn : Below w71.heap.size w71 (w71.alloc (.cells #[.int .u8 0, .int .u8 0, .int .u8 0, .int .u8 0, .int .u8 0, .int .u8 0, .int .u8 0, .int .u8 0] 29)) := below_new w71 _
      have kt : Bk (w71.alloc (.cells #[.int .u8 0, .int .u8 0, .int .u8 0, .int .u8 0, .int .u8 0, .int .u8 0, .int .u8 0, .int .u8 0] 29)) q9 29 ([] ++ (dl zeroD ++ [])) := by rw [← hq9]; exact Bk.new' w71 _ #[.int .u8 0, .int .u8 0, .int .u8 0, .int .u8 0, .int .u8 0, .int .u8 0, .int .u8 0, .int .u8 0] rfl
      rw [hq9]
      refine wpList_store_part rfl 29 _ _ rfl q9 0 (.agg (dl x.2.1).toArray) (dl x.2.1) rfl rfl rfl 29 [] (dl zeroD) [] kt rfl (by rw [dl_len, dl_len, HXO.out.len]; rfl) HX8.out (dl_one x.2.1) ?_
      intro w72 hp
      have hbn : Below w71.heap.size w71 w72 := hbn.grown hp.only hbn.size (fun q hq => by injection hq with hq; omega)
      have HE72 : Hid (Bk w72 q9 29 (dl x.2.1)) := by show Bk _ _ _ _; have := hp.bk; simpa using this
      have hTq9 : T < q9 := by omega
      clear hp kt hq9
      have HZ72 := Lib.hid (HZ71.out.later hbn)
      try have HT72 := Lib.hid (HT71.out.later hbn)
      try have HD72 := Lib.hid (HD71.out.later hbn)
      try have HP72 := Lib.hid (own_keep HP71.out hbn)
      try have HE72 := Lib.hid (HE71.out.later hbn)
      try have HS72 := Lib.hid (own_keep HS71.out hbn)
      have HB72 := Lib.hid (below_then HB71.out hbn)
      have HR72 := Lib.hid (HR71.out.later hbn)
      have hz72 : w71.heap.size ≤ w72.heap.size := hbn.size
      clear hbn
      by_cases hf : x.2.2 = 0
      · have hf1 : (x.2.2 != 0) = false := by simp [hf]
        have HDE2 : Hid (decEnd (someR x.1 4096).1 (fun ss => ⟨a.2, 0, d.2, zeroD, b.2.1, x.2.1, [], (someR x.1 4096).2, ss⟩) = o) := by show _ = _; rw [← HDE.out, decP1, if_neg hk, HXX.out, if_pos hf]
        clear hk hf HDE
        go_wp2_with fail
        refine wp_region_held_drew (S := fun w' => Bk w' q6 29 (dl b.2.1) ∧ Bk w' q9 29 (dl x.2.1)) (by kernel_rfl) ⟨Bk.drew HD72.out, Bk.drew HE72.out⟩ (fun hHeld => ?_)
        refine wpAnyH_take (i := 0) (v := .agg (List.toArray (dl b.2.1))) rfl (by kernel_rfl) (by kernel_rfl) (by kernel_rfl) (fun _ _ _ h => h) (yieldsIf_load_mid (by rfl) _ _ rfl _ _ rfl (dl b.2.1) _ (fun w hSw => (Bk.range (pre := []) (post := []) (by simpa using hSw.1) rfl)) Try.underlying29 rfl (HB8.out)) (by assumption) ?_
        try simp only [Act.put, List.setIfInBounds_toArray, List.set_cons_zero, List.set_cons_succ, List.getElem_toArray, List.getElem_cons_zero]
        refine wpAnyH_take (i := 1) (v := ?_) rfl (by kernel_rfl) (by kernel_rfl) (by kernel_rfl) (fun _ _ _ h => h) (Or.inl ⟨by rfl, ?_⟩) (by assumption) ?_
        rotate_left
        · intro w hSw
          (try dsimp only at hSw)
          go_simp
          try with_reducible rfl
        try simp only [Act.put, List.setIfInBounds_toArray, List.set_cons_zero, List.set_cons_succ, List.getElem_toArray, List.getElem_cons_zero, List.getElem_cons_succ]
        refine wpAnyH_take (i := 2) (v := .agg (List.toArray (dl x.2.1))) rfl (by kernel_rfl) (by kernel_rfl) (by kernel_rfl) (fun _ _ _ h => h) (yieldsIf_load_mid (by rfl) _ _ rfl _ _ rfl (dl x.2.1) _ (fun w hSw => (Bk.range (pre := []) (post := []) (by simpa using hSw.2) rfl)) Try.underlying29 rfl (HX8.out)) (by assumption) ?_
        try simp only [Act.put, List.setIfInBounds_toArray, List.set_cons_zero, List.set_cons_succ, List.getElem_toArray, List.getElem_cons_zero, List.getElem_cons_succ]
        refine wpAnyH_take (i := 3) (v := ?_) rfl (by kernel_rfl) (by kernel_rfl) (by kernel_rfl) (fun _ _ _ h => h) (Or.inl ⟨by rfl, ?_⟩) (by assumption) ?_
        rotate_left
        · intro w hSw
          (try dsimp only at hSw)
          go_simp
          try with_reducible rfl
        try simp only [Act.put, List.setIfInBounds_toArray, List.set_cons_zero, List.set_cons_succ, List.getElem_toArray, List.getElem_cons_zero, List.getElem_cons_succ]
        refine wpAnyH_ready (rs := [4]) (by kernel_rfl) (by simp) ?_
        refine AllReadyH.cons rfl (fun K hK => ?_) AllReadyH.nil
        go_simp
        (go_at_call 72; refine (rdBytes_any _ g x.1 (HR72.out.later (below_draws w72 w72.heap.size 1)) 4096 (by omega) (by omega)).mono ?_; obtain ⟨f, hf⟩ : ∃ f, someR x.1 4096 = f := ⟨_, rfl⟩; rw [hf]; rintro e w8 ⟨v8, rfl, hown, hrd, hgr'⟩; have hgr : w72.grownBy w8 (some g) := only_trans (only_drew (only_refl' w72 _)) hgr'; obtain ⟨A8, c8, rfl⟩ := own_form hown; have HF := Lib.hid hf; have HR8 := Lib.hid hrd; have HP8 := Lib.hid hown; clear hown hrd hgr' hf)
        refine hK.out _ _ (⟨HD72.out.grown hgr (by intro h; injection h with h; omega), HE72.out.grown hgr (by intro h; injection h with h; omega)⟩) (fun hHeld => ?_)
        clear hK K
        try simp only [Act.put, List.setIfInBounds_toArray, List.set_cons_zero, List.set_cons_succ, List.getElem_toArray, List.getElem_cons_zero, List.getElem_cons_succ]
        have HZ8 := Lib.hid (HZ72.out.grown hgr (by intro h; injection h with h; omega))
        try have HT8 := Lib.hid (HT72.out.grown hgr (by intro h; injection h with h; omega))
        try have HD8 := Lib.hid (HD72.out.grown hgr (by intro h; injection h with h; omega))
        try have HE8 := Lib.hid (HE72.out.grown hgr (by intro h; injection h with h; omega))
        try have HP8 := Lib.hid (own_only HP72.out hgr (rd_ne HR72.out HP72.out))
        have HB8 := Lib.hid (HB72.out.grown hgr HB72.out.size (fun q hq => by injection hq with hq; omega))
        have hz8 : w72.heap.size ≤ w8.heap.size := hgr.size
        clear hgr
        refine wpAnyH_take (i := 5) (v := .agg (List.toArray (actC d.2 b.2.1 x.2.1 (.slice A8 f.2.length c8)))) rfl (by kernel_rfl) (by kernel_rfl) (by kernel_rfl) (fun _ _ _ h => h) (yieldsIf_build (by rfl) _ _ rfl #[(0, .agg (dl b.2.1).toArray), (1, .int .i64 d.2), (2, .agg (dl x.2.1).toArray), (3, .slice A8 f.2.length c8)] (by simp [Act.eval]) _ (build_ac d.2 b.2.1 x.2.1 HBO.out HXO.out A8 f.2.length c8)) (by assumption) ?_
        try simp only [Act.put, List.setIfInBounds_toArray, List.set_cons_zero, List.set_cons_succ, List.getElem_toArray, List.getElem_cons_zero, List.getElem_cons_succ]
        refine wpAnyH_take (i := 6) (v := ?_) rfl (by kernel_rfl) (by kernel_rfl) (by kernel_rfl) (fun _ _ _ h => h) (Or.inl ⟨by rfl, ?_⟩) (by assumption) ?_
        rotate_left
        · intro w hSw
          (try dsimp only at hSw)
          go_simp
          try with_reducible rfl
        try simp only [Act.put, List.setIfInBounds_toArray, List.set_cons_zero, List.set_cons_succ, List.getElem_toArray, List.getElem_cons_zero, List.getElem_cons_succ]
        refine wpAnyH_ready (rs := [7]) (by kernel_rfl) (by simp) ?_
        refine AllReadyH.cons rfl (fun K hK => ?_) AllReadyH.nil
        rw [if_pos (by rfl)]
        refine wp_store_part _ _ _ rfl T 11 _ (actC d.2 b.2.1 x.2.1 (.slice A8 f.2.length c8)) rfl rfl rfl _ (.int .i64 a.2 :: staC 0 zeroD (.slice none 0 0)) (actC 0 zeroD zeroD (.slice none 0 0)) ([.slice none 0 0]) HT8.out rfl (by rw [actC_len zero_ok zero_ok, actC_len HBO.out HXO.out]) (by rw [actC_len HBO.out HXO.out]; exact ac_size) ac_one ?_
        intro w9 hp9
        refine hK.out _ _ ⟨HD8.out.grown hp9.only (by intro h; injection h with h; omega), HE8.out.grown hp9.only (by intro h; injection h with h; omega)⟩ (fun hHeld => ?_)
        clear hK K
        try simp only [Act.put, List.getElem_toArray, List.getElem_cons_zero, List.getElem_cons_succ]
        refine wpAnyH_done (by kernel_rfl) ?_ _
        clear hHeld
        have HT9 : Hid (Bk w9 T 35 (thC a.2 0 d.2 zeroD b.2.1 x.2.1 (.slice none 0 0) (.slice A8 f.2.length c8) (.slice none 0 0))) := hp9.bk
        have hgr := hp9.only
        have HZ9 := Lib.hid (HZ8.out.grown hgr (by intro h; injection h with h; omega))
        have HP9 := Lib.hid (own_only HP8.out hgr (own_bk_ne HP8.out HT8.out (by decide)))
        try have HS9 := Lib.hid (own_only HS8.out hgr (own_bk_ne HS8.out HT8.out (by decide)))
        have HR9 := Lib.hid (HR8.out.only hgr (by omega) (by omega))
        have HB9 := Lib.hid (HB8.out.grown hgr HB8.out.size (fun q hq => by injection hq with hq; omega))
        have hz9 : w8.heap.size ≤ w9.heap.size := hgr.size
        clear hgr hp9
        have HFO : Hid (ByOk f.2) := by show ByOk _; rw [← HF.out]; exact some_ok HR72.out.ok
        have HDE3 : Hid (decEnd f.1 (fun ss => ⟨a.2, 0, d.2, zeroD, b.2.1, x.2.1, [], f.2, ss⟩) = o) := by show _ = _; rw [← HDE2.out, HF.out]
        go_wp2_with fail
        refine (rdBytes_any _ g f.1 HR9.out 4096 (by omega) (by omega)).mono ?_
        obtain ⟨h, hh⟩ : ∃ h, someR f.1 4096 = h := ⟨_, rfl⟩
        rw [hh]
        rintro e w10 ⟨vs, rfl, hown, hrd, hgr⟩
        obtain ⟨A10, c10, rfl⟩ := own_form hown
        have HHO : Hid (ByOk h.2) := by show ByOk _; rw [← hh]; exact some_ok HR9.out.ok
        have HZ10 := Lib.hid (HZ9.out.grown hgr (by intro h; injection h with h; omega))
        try have HT10 := Lib.hid (HT9.out.grown hgr (by intro h; injection h with h; omega))
        try have HD10 := Lib.hid (HD9.out.grown hgr (by intro h; injection h with h; omega))
        try have HE10 := Lib.hid (HE9.out.grown hgr (by intro h; injection h with h; omega))
        try have HP10 := Lib.hid (own_only HP9.out hgr (rd_ne HR9.out HP9.out))
        have HB10 := Lib.hid (HB9.out.grown hgr HB9.out.size (fun q hq => by injection hq with hq; omega))
        have hz10 : w9.heap.size ≤ w10.heap.size := hgr.size
        have HR10 := Lib.hid hrd
        have HS10 := Lib.hid hown
        have HHH := Lib.hid hh
        clear hown hrd hgr hh
        go_wp2_with (with_reducible refine stop_store 23 _ _ rfl ?_)
        refine StopD.go ?_
        refine wpList_store_part rfl 23 _ _ rfl T 29 (.slice A10 h.2.length c10) [.slice A10 h.2.length c10] rfl rfl rfl 35 (.int .i64 a.2 :: (staC 0 zeroD (.slice none 0 0) ++ actC d.2 b.2.1 x.2.1 (.slice A8 f.2.length c8))) [.slice none 0 0] [] (by have := HT10.out; simpa [thC] using this) (by rw [List.length_cons, List.length_append, staC_len zero_ok, actC_len HBO.out HXO.out]) rfl (by kernel_rfl) (by intro v hv; simp at hv; subst hv; rfl) ?_
        intro w11 hp
        obtain ⟨y3, hy3⟩ : ∃ y3, thC a.2 0 d.2 zeroD b.2.1 x.2.1 (.slice none 0 0) (.slice A8 f.2.length c8) (.slice A10 h.2.length c10) = y3 := ⟨_, rfl⟩
        have HT11 : Hid (Bk w11 T 35 y3) := by show Bk _ _ _ _; rw [← hy3]; have := hp.bk; simpa [thC] using this
        have hgr := hp.only
        have HZ11 := Lib.hid (HZ10.out.grown hgr (by intro h; injection h with h; omega))
        have HP11 := Lib.hid (own_only HP10.out hgr (own_bk_ne HP10.out HT10.out (by decide)))
        try have HS11 := Lib.hid (own_only HS10.out hgr (own_bk_ne HS10.out HT10.out (by decide)))
        have HR11 := Lib.hid (HR10.out.only hgr (by omega) (by omega))
        have HB11 := Lib.hid (HB10.out.grown hgr HB10.out.size (fun q hq => by injection hq with hq; omega))
        have hz11 : w10.heap.size ≤ w11.heap.size := hgr.size
        have HY3 := Lib.hid hy3
        have HY30 : Hid (y3.length = 30) := by show _ = _; rw [← hy3, thC_len zero_ok HBO.out HXO.out]
        have HY3S : Hid ((Try.prog.info? 35).map (·.size) = some y3.length) := by show _ = _; rw [HY30.out]; exact th_size
        have HY31 : Hid (∀ v ∈ y3, v.oneCell' = true) := by show ∀ v ∈ y3, v.oneCell' = true; rw [← hy3]; exact th_one
        clear hp hgr hy3
        go_wp2_with fail
        refine (rdEnd_any _ g h.1 HR11.out).mono ?_
        rintro e w12 ⟨rfl, q, hq⟩
        have hbn : Below w11.heap.size w11 w12 := hq ▸ below_draws w11 w11.heap.size q
        clear hq
        have HZ12 := Lib.hid (HZ11.out.later hbn)
        try have HT12 := Lib.hid (HT11.out.later hbn)
        try have HD12 := Lib.hid (HD11.out.later hbn)
        try have HP12 := Lib.hid (own_keep HP11.out hbn)
        try have HE12 := Lib.hid (HE11.out.later hbn)
        try have HS12 := Lib.hid (own_keep HS11.out hbn)
        have HB12 := Lib.hid (below_then HB11.out hbn)
        have HR12 := Lib.hid (HR11.out.later hbn)
        have hz12 : w11.heap.size ≤ w12.heap.size := hbn.size
        clear hbn
        by_cases hE : endR h.1 = 0
        · have hE1 : (endR h.1 != 0) = false := by simp [hE]
          have HOO : Hid (o = (⟨a.2, 0, d.2, zeroD, b.2.1, x.2.1, [], f.2, h.2⟩, 0)) := by show _ = _; rw [← HDE3.out, decEnd, HHH.out, if_pos hE]
          clear hE
          go_wp2_with (first
            | (with_reducible refine wpList_load_bk rfl 35 _ rfl T rfl y3 35 HT12.out _ Try.underlying35 rfl HY3S.out ?_)
            | (with_reducible refine stop_store 35 _ _ rfl ?_))
          refine StopD.go ?_
          refine wpList_store_part rfl 35 _ _ rfl w.heap.size 0 (.agg y3.toArray) y3 rfl rfl rfl 35 [] z0 [] (by have := HZ12.out; simpa using this) rfl (by rw [HZ30.out, HY30.out]) HY3S.out HY31.out ?_
          intro w13 hp
          have HZ13 : Hid (Bk w13 w.heap.size 35 y3) := by show Bk _ _ _ _; have := hp.bk; simpa using this
          have HB13 := Lib.hid (HB12.out.grown hp.only HB12.out.size (fun q hq => by injection hq with hq; omega))
          have HP13 := Lib.hid (own_only HP12.out hp.only (own_bk_ne HP12.out HZ12.out (by decide)))
          have HS13 := Lib.hid (own_only HS12.out hp.only (own_bk_ne HS12.out HZ12.out (by decide)))
          clear hp
          go_wp2_with fail
          refine bodyPost_ret (dec_ret HY30.out HZ13.out _ rfl rfl) rfl ?_
          rw [HOO.out, ← HY3.out]
          exact ⟨none, A8, A10, 0, f.2.length, h.2.length, 0, c8, c10, rfl, ⟨Sl.nil, Sl.of_own HP13.out, Sl.of_own HS13.out, byOk_nil, HFO.out, HHO.out⟩, HB13.out⟩
        · have hE1 : (endR h.1 != 0) = true := by simp [hE]
          have HOO : Hid (o = (tg0, endR h.1)) := by show _ = _; rw [← HDE3.out, decEnd, HHH.out, if_neg hE]
          clear hE
          go_wp2_with (first
            | (with_reducible refine wpList_build rfl 35 _ rfl #[] (by simp [Act.eval]) (.agg z0.toArray) (HBZ.out _) ?_)
            | (with_reducible refine stop_store 35 _ _ rfl ?_))
          refine StopD.go ?_
          refine wpList_store_part rfl 35 _ _ rfl w.heap.size 0 (.agg z0.toArray) z0 rfl rfl rfl 35 [] z0 [] (by have := HZ12.out; simpa using this) rfl rfl HZS.out HZ1C.out ?_
          intro w13 hp
          have HZ13 : Hid (Bk w13 w.heap.size 35 z0) := by show Bk _ _ _ _; have := hp.bk; simpa using this
          have HB13 := Lib.hid (HB12.out.grown hp.only HB12.out.size (fun q hq => by injection hq with hq; omega))
          clear hp
          go_wp2_with fail
          refine bodyPost_ret (dec_ret HZ30.out HZ13.out _ rfl rfl) rfl ?_
          rw [← HZZ.out]
          exact RetP.fail HOO.out HB13.out
      · have hf1 : (x.2.2 != 0) = true := by simp [hf]
        have HOO : Hid (o = (tg0, x.2.2)) := by show _ = _; rw [← HDE.out, decP1, if_neg hk, HXX.out, if_neg hf]
        clear hk hf HDE
        go_wp2_with (first
          | (with_reducible refine wpList_build rfl 35 _ rfl #[] (by simp [Act.eval]) (.agg z0.toArray) (HBZ.out _) ?_)
          | (with_reducible refine stop_store 35 _ _ rfl ?_))
        refine StopD.go ?_
        refine wpList_store_part rfl 35 _ _ rfl w.heap.size 0 (.agg z0.toArray) z0 rfl rfl rfl 35 [] z0 [] (by have := HZ72.out; simpa using this) rfl rfl HZS.out HZ1C.out ?_
        intro w8 hp
        have HZ8 : Hid (Bk w8 w.heap.size 35 z0) := by show Bk _ _ _ _; have := hp.bk; simpa using this
        have HB8 := Lib.hid (HB72.out.grown hp.only HB72.out.size (fun q hq => by injection hq with hq; omega))
        clear hp
        go_wp2_with fail
        refine bodyPost_ret (dec_ret HZ30.out HZ8.out _ rfl rfl) rfl ?_
        rw [← HZZ.out]
        exact RetP.fail HOO.out HB8.out
  · have he1 : (b.2.2 != 0) = true := by simp [he]
    have HOO : Hid (o = (tg0, b.2.2)) := by show _ = _; rw [← HDEC.out, decP, HA.out, HBB.out, if_neg he]
    clear he
    go_wp2_with (first
      | (with_reducible refine wpList_build rfl 35 _ rfl #[] (by simp [Act.eval]) (.agg z0.toArray) (HBZ.out _) ?_)
      | (with_reducible refine stop_store 35 _ _ rfl ?_))
    refine StopD.go ?_
    refine wpList_store_part rfl 35 _ _ rfl w.heap.size 0 (.agg z0.toArray) z0 rfl rfl rfl 35 [] z0 [] (by have := HZ6.out; simpa using this) rfl rfl HZS.out HZ1C.out ?_
    intro w7 hp
    have HZ7 : Hid (Bk w7 w.heap.size 35 z0) := by show Bk _ _ _ _; have := hp.bk; simpa using this
    have HB7 := Lib.hid (HB6.out.grown hp.only HB6.out.size (fun q hq => by injection hq with hq; omega))
    clear hp
    go_wp2_with fail
    refine bodyPost_ret (dec_ret HZ30.out HZ7.out _ rfl rfl) rfl ?_
    rw [← HZZ.out]
    exact RetP.fail HOO.out HB7.out
end Go.Proofs.Ythibihjblodfmaa
