/- A thing, read off bytes as the document has it. -/
import Derived.Test.YthibihjblodfmaaQ12
namespace Go.Proofs.Ythibihjblodfmaa
open Go.RowKit

theorem rv_form {w : World} {B : Nat} {v : Value} {s : Rd} (h : RvAt w B v s) : ∃ X : List Value, v = .agg X.toArray ∧ X.length = 3 ∧ ∀ x ∈ X, x.oneCell' = true := by
  obtain ⟨A, n, c, bs, k, rfl, _⟩ := h
  exact ⟨[.slice A n c, .int .i64 (k : Int), .int .i64 s.err], rfl, rfl, three_one⟩
structure Rg where
  k : Int
  n : Int
  t : List Int
  v : List Int
  bs : List Int
  ss : List Int
def rg0 : Rg := ⟨0, 0, zeroD, zeroD, [], []⟩
def rEndD (k n : Int) (t : List Int) (x : Rd × List Int) : Rg × Int :=
  if endR (someR (someR x.1 4096).1 4096).1 = 0 then (⟨k, n, t, x.2, (someR x.1 4096).2, (someR (someR x.1 4096).1 4096).2⟩, 0) else (rg0, endR (someR (someR x.1 4096).1 4096).1)
def decR1 (k : Int) (s : Rd) (t : List Int) (n : Int) : Rg × Int := rEndD k n t (if k = 1 then eightR s else (s, zeroD))
def decR (bs : List Int) : Rg × Int :=
  decR1 (numR ⟨bs, 0⟩ 1).2 (numR (eightR (numR ⟨bs, 0⟩ 1).1).1 1099511627776).1 (eightR (numR ⟨bs, 0⟩ 1).1).2 (numR (eightR (numR ⟨bs, 0⟩ 1).1).1 1099511627776).2
def RetR (o : Rg × Int) (w : World) (e : Ending) (w' : World) : Prop :=
  ∃ (A B : Option Addr) (N C M D : Nat), e = .returned (.tuple #[.agg (rtC o.1.k o.1.n o.1.t o.1.v (.slice A N C) (.slice B M D) false).toArray, .int .i64 o.2]) ∧
    Sl w' w'.heap.size 1 A N (o.1.bs.map (.int .u8)) ∧ Sl w' w'.heap.size 1 B M (o.1.ss.map (.int .u8)) ∧ ByOk o.1.bs ∧ ByOk o.1.ss ∧ Below w.heap.size w w'
theorem build_rt0 (k : Int) (w : World) : (Instr.build 25 #[(0, .int .i64 k)]).run Try.prog w = .ok (.agg (rtC k 0 zeroD zeroD (.slice none 0 0) (.slice none 0 0) false).toArray) w := by kernel_rfl
theorem z_rtb (W : World) : (Instr.build 25 #[]).run Try.prog W = .ok (.agg (rtC 0 0 zeroD zeroD (.slice none 0 0) (.slice none 0 0) false).toArray) W := by kernel_rfl
theorem rdec_ret {w : World} {g : Nat} {cs : List Value} {n : Int} (hl : cs.length = 21) (h : Bk w g 25 cs) (tmps : Array Value) (h2 : tmps.getD 2 undef = .pointer (some ⟨g, 0, none⟩)) (h3 : tmps.getD 3 undef = .int .i64 n) :
    (results Try.f21 tmps).run Try.prog w = .ok (.tuple #[.agg cs.toArray, .int .i64 n]) w := by
  have r1 : w.rangeAt g 0 cs := Bk.range (pre := []) (post := []) (by simpa using h) rfl
  have l1 := run_loadVar_mid (P := Try.prog) w g 0 25 cs _ r1 Try.underlying25 rfl (by rw [hl]; exact rt_size)
  rw [Array.getD_eq_getD_getElem?] at h2 h3
  simp [results, Try.results21, h2, h3, asAddr, l1]
set_option maxRecDepth 20000 in
set_option maxHeartbeats 8000000 in
theorem rdecode_any (w : World) (A : Option Addr) (n c : Nat) (bs : List Int) (ho : ByOk bs) (hs : Sl w w.heap.size 1 A n (bs.map (.int .u8))) (hn : n ≤ 1073741824) (hc : n ≤ c) :
    Calls Try.prog 21 #[.slice A n c] w (RetR (decR bs) w) := by
  obtain ⟨w1, hw1⟩ : ∃ w1, w.alloc (.cells #[.int .i64 0, .int .u8 0, .int .u8 0, .int .u8 0, .int .u8 0, .int .u8 0, .int .u8 0, .int .u8 0, .int .u8 0, .int .i64 0, .int .u8 0, .int .u8 0, .int .u8 0, .int .u8 0, .int .u8 0, .int .u8 0, .int .u8 0, .int .u8 0, .slice none 0 0, .slice none 0 0, .bool false] 25) = w1 := ⟨_, rfl⟩
  have hb1 : Below w.heap.size w w1 := hw1 ▸ below_new w _
  have hz1 : w1.heap.size = w.heap.size + 1 := by rw [← hw1]; simp
  obtain ⟨z0, hz0⟩ : ∃ z0, rtC 0 0 zeroD zeroD (.slice none 0 0) (.slice none 0 0) false = z0 := ⟨_, rfl⟩
  have kz : Bk w1 w.heap.size 25 z0 := by rw [← hw1, ← hz0]; exact Bk.new' w _ #[.int .i64 0, .int .u8 0, .int .u8 0, .int .u8 0, .int .u8 0, .int .u8 0, .int .u8 0, .int .u8 0, .int .u8 0, .int .i64 0, .int .u8 0, .int .u8 0, .int .u8 0, .int .u8 0, .int .u8 0, .int .u8 0, .int .u8 0, .int .u8 0, .slice none 0 0, .slice none 0 0, .bool false] rfl
  have HW := Lib.hid hw1; have HB1 := Lib.hid hb1; have HZ1 := Lib.hid kz; have HZZ := Lib.hid hz0
  have HO := Lib.hid ho
  have HV1 := Lib.hid (RvAt.new (hs.below hb1) ho hn hc)
  have HZ30 : Hid (z0.length = 21) := by show _ = _; rw [← hz0]; rfl
  have HZS : Hid ((Try.prog.info? 25).map (·.size) = some z0.length) := by show _ = _; rw [HZ30.out]; exact rt_size
  have HZ1C : Hid (∀ v ∈ z0, v.oneCell' = true) := by show ∀ v ∈ z0, v.oneCell' = true; rw [← hz0]; exact rt_one
  obtain ⟨o, hdec⟩ : ∃ o, decR bs = o := ⟨_, rfl⟩
  have HDEC := Lib.hid hdec
  rw [hdec]
  clear hw1 hb1 kz hz0 ho hs hdec
  go_enter Try.func21, Try.ntmps21
  go_upto_region 1 with fail
  rw [HW.out]
  go_wp2_with fail
  refine (rRead_any _ w.heap.size (by omega) _ _ HV1.out 1).mono ?_
  obtain ⟨a, ha⟩ : ∃ a, numR ⟨bs, 0⟩ 1 = a := ⟨_, rfl⟩
  rw [ha]
  rintro e w2 ⟨v', rfl, hv', hbn⟩
  have har : 0 ≤ a.2 ∧ a.2 ≤ 1 := ha ▸ num_rng (s := ⟨bs, 0⟩) HO.out (by omega)
  have HA := Lib.hid ha
  clear ha
  obtain ⟨X2, rfl, hx3, hx1⟩ := rv_form hv'
  have HV2 := Lib.hid hv'
  have HX32 := Lib.hid hx3
  have HX12 := Lib.hid hx1
  have HXS2 : Hid ((Try.prog.info? 136).map (·.size) = some X2.length) := by show _ = _; rw [hx3]; kernel_rfl
  try have HZ2 := Lib.hid (HZ1.out.later hbn)
  try have HT2 := Lib.hid (HT1.out.later hbn)
  try have HG2 := Lib.hid (HG1.out.later hbn)
  try have HP2 := Lib.hid (own_keep HP1.out hbn)
  try have HQ2 := Lib.hid (own_keep HQ1.out hbn)
  have HB2 := Lib.hid (below_then HB1.out hbn)
  have hz2 : w1.heap.size ≤ w2.heap.size := hbn.size
  clear hbn hv' hx3 hx1
  go_wp2_with (with_reducible refine stop_store 136 _ _ rfl ?_)
  refine StopD.go ?_
  obtain ⟨g, hg⟩ : ∃ g, w2.heap.size = g := ⟨_, rfl⟩
  have kt : Bk (w2.alloc (.cells #[.slice none 0 0, .int .i64 0, .int .i64 0] 136)) g 136 ([] ++ ([.slice none 0 0, .int .i64 0, .int .i64 0] ++ [])) := by rw [← hg]; exact Bk.new' w2 _ #[.slice none 0 0, .int .i64 0, .int .i64 0] rfl
  have hbn : Below w2.heap.size w2 (w2.alloc (.cells #[.slice none 0 0, .int .i64 0, .int .i64 0] 136)) := below_new w2 _
  rw [hg]
  refine wpList_store_part rfl 136 _ _ rfl g 0 (.agg X2.toArray) X2 rfl rfl rfl 136 [] [.slice none 0 0, .int .i64 0, .int .i64 0] [] kt rfl (by rw [HX32.out]; rfl) HXS2.out HX12.out ?_
  intro w3 hp
  have hbn : Below w2.heap.size w2 w3 := hbn.grown hp.only hbn.size (fun q hq => by injection hq with hq; omega)
  have HG3 : Hid (Bk w3 g 136 X2) := by show Bk _ _ _ _; have := hp.bk; simpa using this
  have HZ3 := Lib.hid (HZ2.out.later hbn)
  have HV3 := Lib.hid (HV2.out.below (hbn.mono (by omega)))
  have HB3 := Lib.hid (below_then HB2.out hbn)
  have hz3 : g < w3.heap.size := hp.bk.lt
  have hrg : w.heap.size < g := by omega
  clear hp kt hbn
  have hkw : IntKind.i64.wrap a.2 = a.2 := IntWalk.i64_in _ (by omega)
  have HBT := Lib.hid (build_rt0 a.2)
  obtain ⟨y0, hy0⟩ : ∃ y0, rtC a.2 0 zeroD zeroD (.slice none 0 0) (.slice none 0 0) false = y0 := ⟨_, rfl⟩
  rw [hy0] at HBT
  have HYS : Hid ((Try.prog.info? 25).map (·.size) = some y0.length) := by show _ = _; rw [← hy0]; exact rt_size
  have HYL : Hid (z0.length = y0.length) := by show _ = _; rw [HZ30.out, ← hy0]; rfl
  have HY1 : Hid (∀ v ∈ y0, v.oneCell' = true) := by show ∀ v ∈ y0, v.oneCell' = true; rw [← hy0]; exact rt_one
  have HYY := Lib.hid hy0
  clear hy0
  go_wp2_with (first
    | (with_reducible refine wpList_build rfl 25 _ rfl #[(0, .int .i64 a.2)] (by simp [Act.eval]) (.agg y0.toArray) (HBT.out _) ?_)
    | (with_reducible refine stop_store 25 _ _ rfl ?_))
  refine StopD.go ?_
  obtain ⟨T, hT⟩ : ∃ T, w3.heap.size = T := ⟨_, rfl⟩
  have hbn : Below w3.heap.size w3 (w3.alloc (.cells #[.int .i64 0, .int .u8 0, .int .u8 0, .int .u8 0, .int .u8 0, .int .u8 0, .int .u8 0, .int .u8 0, .int .u8 0, .int .i64 0, .int .u8 0, .int .u8 0, .int .u8 0, .int .u8 0, .int .u8 0, .int .u8 0, .int .u8 0, .int .u8 0, .slice none 0 0, .slice none 0 0, .bool false] 25)) := below_new w3 _
  have kt : Bk (w3.alloc (.cells #[.int .i64 0, .int .u8 0, .int .u8 0, .int .u8 0, .int .u8 0, .int .u8 0, .int .u8 0, .int .u8 0, .int .u8 0, .int .i64 0, .int .u8 0, .int .u8 0, .int .u8 0, .int .u8 0, .int .u8 0, .int .u8 0, .int .u8 0, .int .u8 0, .slice none 0 0, .slice none 0 0, .bool false] 25)) T 25 ([] ++ (z0 ++ [])) := by rw [← hT, ← HZZ.out]; exact Bk.new' w3 _ #[.int .i64 0, .int .u8 0, .int .u8 0, .int .u8 0, .int .u8 0, .int .u8 0, .int .u8 0, .int .u8 0, .int .u8 0, .int .i64 0, .int .u8 0, .int .u8 0, .int .u8 0, .int .u8 0, .int .u8 0, .int .u8 0, .int .u8 0, .int .u8 0, .slice none 0 0, .slice none 0 0, .bool false] rfl
  rw [hT]
  refine wpList_store_part rfl 25 _ _ rfl T 0 (.agg y0.toArray) y0 rfl rfl rfl 25 [] z0 [] kt rfl HYL.out HYS.out HY1.out ?_
  intro w4 hp
  have hbn : Below w3.heap.size w3 w4 := hbn.grown hp.only hbn.size (fun q hq => by injection hq with hq; omega)
  have HT4 : Hid (Bk w4 T 25 (rtC a.2 0 zeroD zeroD (.slice none 0 0) (.slice none 0 0) false)) := by show Bk _ _ _ _; rw [HYY.out]; have := hp.bk; simpa using this
  have HZ4 := Lib.hid (HZ3.out.later hbn); have HG4 := Lib.hid (HG3.out.later hbn)
  have HV4 := Lib.hid (HV3.out.below (hbn.mono (by omega)))
  have HB4 := Lib.hid (below_then HB3.out hbn)
  have hz4 : T < w4.heap.size := hp.bk.lt
  have hgT : g < T := by omega
  clear hp kt hbn hT
  go_wp2_with (with_reducible refine wpList_load_bk rfl 136 _ rfl g rfl X2 136 HG4.out _ Try.underlying136 rfl HXS2.out ?_)
  refine (eight_any _ w.heap.size (by omega) _ _ HV4.out).mono ?_
  obtain ⟨b, hb⟩ : ∃ b, eightR a.1 = b := ⟨_, rfl⟩
  rw [hb]
  rintro e w5 ⟨v', rfl, hv', hbn⟩
  have HBO : Hid (DgOk b.2) := by show DgOk _; rw [← hb]; exact eightR_ok HV4.out.ok
  have HBB := Lib.hid hb
  have HB8 : Hid ((Try.prog.info? 22).map (·.size) = some (dl b.2).length) := by show _ = _; rw [dl_len, HBO.out.len]; kernel_rfl
  clear hb
  obtain ⟨X5, rfl, hx3, hx1⟩ := rv_form hv'
  have HV5 := Lib.hid hv'
  have HX35 := Lib.hid hx3
  have HX15 := Lib.hid hx1
  have HXS5 : Hid ((Try.prog.info? 136).map (·.size) = some X5.length) := by show _ = _; rw [hx3]; kernel_rfl
  try have HZ5 := Lib.hid (HZ4.out.later hbn)
  try have HT5 := Lib.hid (HT4.out.later hbn)
  try have HG5 := Lib.hid (HG4.out.later hbn)
  try have HP5 := Lib.hid (own_keep HP4.out hbn)
  try have HQ5 := Lib.hid (own_keep HQ4.out hbn)
  have HB5 := Lib.hid (below_then HB4.out hbn)
  have hz5 : w4.heap.size ≤ w5.heap.size := hbn.size
  clear hbn hv' hx3 hx1
  go_wp2_with (first
    | (with_reducible refine wpList_load_bk rfl 136 _ rfl g rfl X2 136 HG5.out _ Try.underlying136 rfl HXS2.out ?_)
    | (with_reducible refine stop_store 136 _ _ rfl ?_))
  refine StopD.go ?_
  refine wpList_store_part rfl 136 _ _ rfl g 0 (.agg X5.toArray) X5 rfl rfl rfl 136 [] X2 [] (by have := HG5.out; simpa using this) rfl (by rw [HX32.out, HX35.out]) HXS5.out HX15.out ?_
  intro w6 hp
  have HG6 : Hid (Bk w6 g 136 X5) := by show Bk _ _ _ _; have := hp.bk; simpa using this
  have hgr := hp.only
  have HZ6 := Lib.hid (HZ5.out.grown hgr (by intro h; injection h with h; omega))
  have HT6 := Lib.hid (HT5.out.grown hgr (by intro h; injection h with h; omega))
  try have HP6 := Lib.hid (own_only HP5.out hgr (own_bk_ne HP5.out HG5.out (by decide)))
  try have HQ6 := Lib.hid (own_only HQ5.out hgr (own_bk_ne HQ5.out HG5.out (by decide)))
  have HV6 := Lib.hid (HV5.out.below ((Below.refl w.heap.size w5).grown hgr (by have := HB5.out.size; omega) (fun q hq => by injection hq with hq; omega)))
  have HB6 := Lib.hid (HB5.out.grown hgr HB5.out.size (fun q hq => by injection hq with hq; omega))
  have hz6 : w5.heap.size ≤ w6.heap.size := hgr.size
  clear hgr hp
  go_wp2_with (with_reducible refine stop_store 22 _ _ rfl ?_)
  refine StopD.go ?_
  refine wpList_store_part rfl 22 _ _ rfl T 1 (.agg (dl b.2).toArray) (dl b.2) rfl rfl rfl 25 [.int .i64 a.2] (dl zeroD) (Value.int .i64 0 :: (dl zeroD ++ [Value.slice none 0 0, Value.slice none 0 0, Value.bool false])) HT6.out rfl (by rw [dl_len, dl_len, HBO.out.len]; rfl) HB8.out (dl_one b.2) ?_
  intro w7 hp
  have hgr := hp.only
  have HZ7 := Lib.hid (HZ6.out.grown hgr (by intro h; injection h with h; omega))
  have HG7 := Lib.hid (HG6.out.grown hgr (by intro h; injection h with h; omega))
  try have HP7 := Lib.hid (own_only HP6.out hgr (own_bk_ne HP6.out HT6.out (by decide)))
  try have HQ7 := Lib.hid (own_only HQ6.out hgr (own_bk_ne HQ6.out HT6.out (by decide)))
  have HV7 := Lib.hid (HV6.out.below ((Below.refl w.heap.size w6).grown hgr (by have := HB6.out.size; omega) (fun q hq => by injection hq with hq; omega)))
  have HB7 := Lib.hid (HB6.out.grown hgr HB6.out.size (fun q hq => by injection hq with hq; omega))
  have hz7 : w6.heap.size ≤ w7.heap.size := hgr.size
  have HT7 : Hid (Bk w7 T 25 (rtC a.2 0 b.2 zeroD (.slice none 0 0) (.slice none 0 0) false)) := by show Bk _ _ _ _; have := hp.bk; simpa [rtC] using this
  clear hgr hp
  go_wp2_with (with_reducible refine wpList_load_bk rfl 136 _ rfl g rfl X5 136 HG7.out _ Try.underlying136 rfl HXS5.out ?_)
  refine (rRead_any _ w.heap.size (by omega) _ _ HV7.out 1099511627776).mono ?_
  obtain ⟨d, hd⟩ : ∃ d, numR b.1 1099511627776 = d := ⟨_, rfl⟩
  rw [hd]
  rintro e w8 ⟨v', rfl, hv', hbn⟩
  have hdr : 0 ≤ d.2 ∧ d.2 ≤ 1099511627776 := hd ▸ num_rng HV7.out.ok (by omega)
  have HDD := Lib.hid hd
  clear hd
  obtain ⟨X8, rfl, hx3, hx1⟩ := rv_form hv'
  have HV8 := Lib.hid hv'
  have HX38 := Lib.hid hx3
  have HX18 := Lib.hid hx1
  have HXS8 : Hid ((Try.prog.info? 136).map (·.size) = some X8.length) := by show _ = _; rw [hx3]; kernel_rfl
  try have HZ8 := Lib.hid (HZ7.out.later hbn)
  try have HT8 := Lib.hid (HT7.out.later hbn)
  try have HG8 := Lib.hid (HG7.out.later hbn)
  try have HP8 := Lib.hid (own_keep HP7.out hbn)
  try have HQ8 := Lib.hid (own_keep HQ7.out hbn)
  have HB8 := Lib.hid (below_then HB7.out hbn)
  have hz8 : w7.heap.size ≤ w8.heap.size := hbn.size
  clear hbn hv' hx3 hx1
  go_wp2_with (first
    | (with_reducible refine wpList_load_bk rfl 136 _ rfl g rfl X5 136 HG8.out _ Try.underlying136 rfl HXS5.out ?_)
    | (with_reducible refine stop_store 136 _ _ rfl ?_))
  refine StopD.go ?_
  refine wpList_store_part rfl 136 _ _ rfl g 0 (.agg X8.toArray) X8 rfl rfl rfl 136 [] X5 [] (by have := HG8.out; simpa using this) rfl (by rw [HX35.out, HX38.out]) HXS8.out HX18.out ?_
  intro w9 hp
  have HG9 : Hid (Bk w9 g 136 X8) := by show Bk _ _ _ _; have := hp.bk; simpa using this
  have hgr := hp.only
  have HZ9 := Lib.hid (HZ8.out.grown hgr (by intro h; injection h with h; omega))
  have HT9 := Lib.hid (HT8.out.grown hgr (by intro h; injection h with h; omega))
  try have HP9 := Lib.hid (own_only HP8.out hgr (own_bk_ne HP8.out HG8.out (by decide)))
  try have HQ9 := Lib.hid (own_only HQ8.out hgr (own_bk_ne HQ8.out HG8.out (by decide)))
  have HV9 := Lib.hid (HV8.out.below ((Below.refl w.heap.size w8).grown hgr (by have := HB8.out.size; omega) (fun q hq => by injection hq with hq; omega)))
  have HB9 := Lib.hid (HB8.out.grown hgr HB8.out.size (fun q hq => by injection hq with hq; omega))
  have hz9 : w8.heap.size ≤ w9.heap.size := hgr.size
  clear hgr hp
  have hdw : IntKind.i64.wrap d.2 = d.2 := IntWalk.i64_in _ (by omega)
  go_wp2_with (with_reducible refine stop_store 3 _ _ rfl ?_)
  refine StopD.go ?_
  refine wpList_store_part rfl 3 _ _ rfl T 9 (.int .i64 d.2) [.int .i64 d.2] rfl rfl rfl 25 (Value.int .i64 a.2 :: dl b.2) [.int .i64 0] (dl zeroD ++ [Value.slice none 0 0, Value.slice none 0 0, Value.bool false]) (by have := HT9.out; simpa [rtC] using this) (by rw [List.length_cons, dl_len, HBO.out.len]) rfl (by kernel_rfl) (by intro v hv; simp at hv; subst hv; rfl) ?_
  intro w10 hp
  have hgr := hp.only
  have HZ10 := Lib.hid (HZ9.out.grown hgr (by intro h; injection h with h; omega))
  have HG10 := Lib.hid (HG9.out.grown hgr (by intro h; injection h with h; omega))
  try have HP10 := Lib.hid (own_only HP9.out hgr (own_bk_ne HP9.out HT9.out (by decide)))
  try have HQ10 := Lib.hid (own_only HQ9.out hgr (own_bk_ne HQ9.out HT9.out (by decide)))
  have HV10 := Lib.hid (HV9.out.below ((Below.refl w.heap.size w9).grown hgr (by have := HB9.out.size; omega) (fun q hq => by injection hq with hq; omega)))
  have HB10 := Lib.hid (HB9.out.grown hgr HB9.out.size (fun q hq => by injection hq with hq; omega))
  have hz10 : w9.heap.size ≤ w10.heap.size := hgr.size
  have HT10 : Hid (Bk w10 T 25 (rtC a.2 d.2 b.2 zeroD (.slice none 0 0) (.slice none 0 0) false)) := by show Bk _ _ _ _; have := hp.bk; simpa [rtC] using this
  clear hgr hp
  by_cases hk : a.2 = 1
  · have hk1 : (a.2 == 1) = true := by simp [hk]
    go_wp2_with (with_reducible refine wpList_load_bk rfl 136 _ rfl g rfl X8 136 HG10.out _ Try.underlying136 rfl HXS8.out ?_)
    refine (eight_any _ w.heap.size (by omega) _ _ HV10.out).mono ?_
    obtain ⟨x, hx⟩ : ∃ x, eightR d.1 = x := ⟨_, rfl⟩
    rw [hx]
    rintro e w11 ⟨v', rfl, hv', hbn⟩
    have HXO : Hid (DgOk x.2) := by show DgOk _; rw [← hx]; exact eightR_ok HV10.out.ok
    have HX8 : Hid ((Try.prog.info? 22).map (·.size) = some (dl x.2).length) := by show _ = _; rw [dl_len, HXO.out.len]; kernel_rfl
    have HDE : Hid (rEndD a.2 d.2 b.2 x = o) := by show _ = _; rw [← HDEC.out, decR, HA.out, HBB.out, HDD.out, decR1, if_pos hk, hx]
    clear hx hk
    obtain ⟨X11, rfl, hx3, hx1⟩ := rv_form hv'
    have HV11 := Lib.hid hv'
    have HX311 := Lib.hid hx3
    have HX111 := Lib.hid hx1
    have HXS11 : Hid ((Try.prog.info? 136).map (·.size) = some X11.length) := by show _ = _; rw [hx3]; kernel_rfl
    try have HZ11 := Lib.hid (HZ10.out.later hbn)
    try have HT11 := Lib.hid (HT10.out.later hbn)
    try have HG11 := Lib.hid (HG10.out.later hbn)
    try have HP11 := Lib.hid (own_keep HP10.out hbn)
    try have HQ11 := Lib.hid (own_keep HQ10.out hbn)
    have HB11 := Lib.hid (below_then HB10.out hbn)
    have hz11 : w10.heap.size ≤ w11.heap.size := hbn.size
    clear hbn hv' hx3 hx1
    go_wp2_with (first
      | (with_reducible refine wpList_load_bk rfl 136 _ rfl g rfl X8 136 HG11.out _ Try.underlying136 rfl HXS8.out ?_)
      | (with_reducible refine stop_store 136 _ _ rfl ?_))
    refine StopD.go ?_
    refine wpList_store_part rfl 136 _ _ rfl g 0 (.agg X11.toArray) X11 rfl rfl rfl 136 [] X8 [] (by have := HG11.out; simpa using this) rfl (by rw [HX38.out, HX311.out]) HXS11.out HX111.out ?_
    intro w12 hp
    have HG12 : Hid (Bk w12 g 136 X11) := by show Bk _ _ _ _; have := hp.bk; simpa using this
    have hgr := hp.only
    have HZ12 := Lib.hid (HZ11.out.grown hgr (by intro h; injection h with h; omega))
    have HT12 := Lib.hid (HT11.out.grown hgr (by intro h; injection h with h; omega))
    try have HP12 := Lib.hid (own_only HP11.out hgr (own_bk_ne HP11.out HG11.out (by decide)))
    try have HQ12 := Lib.hid (own_only HQ11.out hgr (own_bk_ne HQ11.out HG11.out (by decide)))
    have HV12 := Lib.hid (HV11.out.below ((Below.refl w.heap.size w11).grown hgr (by have := HB11.out.size; omega) (fun q hq => by injection hq with hq; omega)))
    have HB12 := Lib.hid (HB11.out.grown hgr HB11.out.size (fun q hq => by injection hq with hq; omega))
    have hz12 : w11.heap.size ≤ w12.heap.size := hgr.size
    clear hgr hp
    go_wp2_with (with_reducible refine stop_store 22 _ _ rfl ?_)
    refine StopD.go ?_
    refine wpList_store_part rfl 22 _ _ rfl T 10 (.agg (dl x.2).toArray) (dl x.2) rfl rfl rfl 25 (Value.int .i64 a.2 :: (dl b.2 ++ [Value.int .i64 d.2])) (dl zeroD) [Value.slice none 0 0, Value.slice none 0 0, Value.bool false] (by have := HT12.out; simpa [rtC] using this) (by rw [List.length_cons, List.length_append, dl_len, HBO.out.len]; rfl) (by rw [dl_len, dl_len, HXO.out.len]; rfl) HX8.out (dl_one x.2) ?_
    intro w13 hp
    have hgr := hp.only
    have HZ13 := Lib.hid (HZ12.out.grown hgr (by intro h; injection h with h; omega))
    have HG13 := Lib.hid (HG12.out.grown hgr (by intro h; injection h with h; omega))
    try have HP13 := Lib.hid (own_only HP12.out hgr (own_bk_ne HP12.out HT12.out (by decide)))
    try have HQ13 := Lib.hid (own_only HQ12.out hgr (own_bk_ne HQ12.out HT12.out (by decide)))
    have HV13 := Lib.hid (HV12.out.below ((Below.refl w.heap.size w12).grown hgr (by have := HB12.out.size; omega) (fun q hq => by injection hq with hq; omega)))
    have HB13 := Lib.hid (HB12.out.grown hgr HB12.out.size (fun q hq => by injection hq with hq; omega))
    have hz13 : w12.heap.size ≤ w13.heap.size := hgr.size
    have HT13 : Hid (Bk w13 T 25 (rtC a.2 d.2 b.2 x.2 (.slice none 0 0) (.slice none 0 0) false)) := by show Bk _ _ _ _; have := hp.bk; simpa [rtC] using this
    clear hgr hp
    go_wp2_with (with_reducible refine wpList_load_bk rfl 136 _ rfl g rfl X11 136 HG13.out _ Try.underlying136 rfl HXS11.out ?_)
    refine (rSome_any _ w.heap.size (by omega) _ _ HV13.out 4096 (by omega) (by omega)).mono ?_
    obtain ⟨f, hf⟩ : ∃ f, someR x.1 4096 = f := ⟨_, rfl⟩
    rw [hf]
    rintro e w14 ⟨v', bv, rfl, hv', hown, hbn⟩
    obtain ⟨A14, c14, rfl⟩ := own_form hown
    have HFO : Hid (ByOk f.2) := by show ByOk _; rw [← hf]; exact some_ok HV13.out.ok
    have HFF := Lib.hid hf
    have HP14 := Lib.hid hown
    clear hf hown
    obtain ⟨X14, rfl, hx3, hx1⟩ := rv_form hv'
    have HV14 := Lib.hid hv'
    have HX314 := Lib.hid hx3
    have HX114 := Lib.hid hx1
    have HXS14 : Hid ((Try.prog.info? 136).map (·.size) = some X14.length) := by show _ = _; rw [hx3]; kernel_rfl
    try have HZ14 := Lib.hid (HZ13.out.later hbn)
    try have HT14 := Lib.hid (HT13.out.later hbn)
    try have HG14 := Lib.hid (HG13.out.later hbn)
    try have HP14 := Lib.hid (own_keep HP13.out hbn)
    try have HQ14 := Lib.hid (own_keep HQ13.out hbn)
    have HB14 := Lib.hid (below_then HB13.out hbn)
    have hz14 : w13.heap.size ≤ w14.heap.size := hbn.size
    clear hbn hv' hx3 hx1
    go_wp2_with (first
      | (with_reducible refine wpList_load_bk rfl 136 _ rfl g rfl X11 136 HG14.out _ Try.underlying136 rfl HXS11.out ?_)
      | (with_reducible refine stop_store 136 _ _ rfl ?_))
    refine StopD.go ?_
    refine wpList_store_part rfl 136 _ _ rfl g 0 (.agg X14.toArray) X14 rfl rfl rfl 136 [] X11 [] (by have := HG14.out; simpa using this) rfl (by rw [HX311.out, HX314.out]) HXS14.out HX114.out ?_
    intro w15 hp
    have HG15 : Hid (Bk w15 g 136 X14) := by show Bk _ _ _ _; have := hp.bk; simpa using this
    have hgr := hp.only
    have HZ15 := Lib.hid (HZ14.out.grown hgr (by intro h; injection h with h; omega))
    have HT15 := Lib.hid (HT14.out.grown hgr (by intro h; injection h with h; omega))
    try have HP15 := Lib.hid (own_only HP14.out hgr (own_bk_ne HP14.out HG14.out (by decide)))
    try have HQ15 := Lib.hid (own_only HQ14.out hgr (own_bk_ne HQ14.out HG14.out (by decide)))
    have HV15 := Lib.hid (HV14.out.below ((Below.refl w.heap.size w14).grown hgr (by have := HB14.out.size; omega) (fun q hq => by injection hq with hq; omega)))
    have HB15 := Lib.hid (HB14.out.grown hgr HB14.out.size (fun q hq => by injection hq with hq; omega))
    have hz15 : w14.heap.size ≤ w15.heap.size := hgr.size
    clear hgr hp
    go_wp2_with (with_reducible refine stop_store 23 _ _ rfl ?_)
    refine StopD.go ?_
    refine wpList_store_part rfl 23 _ _ rfl T 18 (.slice A14 f.2.length c14) [.slice A14 f.2.length c14] rfl rfl rfl 25 (Value.int .i64 a.2 :: (dl b.2 ++ Value.int .i64 d.2 :: dl x.2)) [Value.slice none 0 0] [Value.slice none 0 0, Value.bool false] (by have := HT15.out; simpa [rtC] using this) (by simp [dl_len, HBO.out.len, HXO.out.len]) rfl (by kernel_rfl) (by intro v hv; simp at hv; subst hv; rfl) ?_
    intro w16 hp
    have hgr := hp.only
    have HZ16 := Lib.hid (HZ15.out.grown hgr (by intro h; injection h with h; omega))
    have HG16 := Lib.hid (HG15.out.grown hgr (by intro h; injection h with h; omega))
    try have HP16 := Lib.hid (own_only HP15.out hgr (own_bk_ne HP15.out HT15.out (by decide)))
    try have HQ16 := Lib.hid (own_only HQ15.out hgr (own_bk_ne HQ15.out HT15.out (by decide)))
    have HV16 := Lib.hid (HV15.out.below ((Below.refl w.heap.size w15).grown hgr (by have := HB15.out.size; omega) (fun q hq => by injection hq with hq; omega)))
    have HB16 := Lib.hid (HB15.out.grown hgr HB15.out.size (fun q hq => by injection hq with hq; omega))
    have hz16 : w15.heap.size ≤ w16.heap.size := hgr.size
    have HT16 : Hid (Bk w16 T 25 (rtC a.2 d.2 b.2 x.2 (.slice A14 f.2.length c14) (.slice none 0 0) false)) := by show Bk _ _ _ _; have := hp.bk; simpa [rtC] using this
    clear hgr hp
    go_wp2_with (with_reducible refine wpList_load_bk rfl 136 _ rfl g rfl X14 136 HG16.out _ Try.underlying136 rfl HXS14.out ?_)
    refine (rSome_any _ w.heap.size (by omega) _ _ HV16.out 4096 (by omega) (by omega)).mono ?_
    obtain ⟨h, hh⟩ : ∃ h, someR f.1 4096 = h := ⟨_, rfl⟩
    rw [hh]
    rintro e w17 ⟨v', bv, rfl, hv', hown, hbn⟩
    obtain ⟨A17, c17, rfl⟩ := own_form hown
    have HHO : Hid (ByOk h.2) := by show ByOk _; rw [← hh]; exact some_ok HV16.out.ok
    have HHH := Lib.hid hh
    have HQ17 := Lib.hid hown
    clear hh hown
    obtain ⟨X17, rfl, hx3, hx1⟩ := rv_form hv'
    have HV17 := Lib.hid hv'
    have HX317 := Lib.hid hx3
    have HX117 := Lib.hid hx1
    have HXS17 : Hid ((Try.prog.info? 136).map (·.size) = some X17.length) := by show _ = _; rw [hx3]; kernel_rfl
    try have HZ17 := Lib.hid (HZ16.out.later hbn)
    try have HT17 := Lib.hid (HT16.out.later hbn)
    try have HG17 := Lib.hid (HG16.out.later hbn)
    try have HP17 := Lib.hid (own_keep HP16.out hbn)
    try have HQ17 := Lib.hid (own_keep HQ16.out hbn)
    have HB17 := Lib.hid (below_then HB16.out hbn)
    have hz17 : w16.heap.size ≤ w17.heap.size := hbn.size
    clear hbn hv' hx3 hx1
    go_wp2_with (first
      | (with_reducible refine wpList_load_bk rfl 136 _ rfl g rfl X14 136 HG17.out _ Try.underlying136 rfl HXS14.out ?_)
      | (with_reducible refine stop_store 136 _ _ rfl ?_))
    refine StopD.go ?_
    refine wpList_store_part rfl 136 _ _ rfl g 0 (.agg X17.toArray) X17 rfl rfl rfl 136 [] X14 [] (by have := HG17.out; simpa using this) rfl (by rw [HX314.out, HX317.out]) HXS17.out HX117.out ?_
    intro w18 hp
    have HG18 : Hid (Bk w18 g 136 X17) := by show Bk _ _ _ _; have := hp.bk; simpa using this
    have hgr := hp.only
    have HZ18 := Lib.hid (HZ17.out.grown hgr (by intro h; injection h with h; omega))
    have HT18 := Lib.hid (HT17.out.grown hgr (by intro h; injection h with h; omega))
    try have HP18 := Lib.hid (own_only HP17.out hgr (own_bk_ne HP17.out HG17.out (by decide)))
    try have HQ18 := Lib.hid (own_only HQ17.out hgr (own_bk_ne HQ17.out HG17.out (by decide)))
    have HV18 := Lib.hid (HV17.out.below ((Below.refl w.heap.size w17).grown hgr (by have := HB17.out.size; omega) (fun q hq => by injection hq with hq; omega)))
    have HB18 := Lib.hid (HB17.out.grown hgr HB17.out.size (fun q hq => by injection hq with hq; omega))
    have hz18 : w17.heap.size ≤ w18.heap.size := hgr.size
    clear hgr hp
    go_wp2_with (with_reducible refine stop_store 23 _ _ rfl ?_)
    refine StopD.go ?_
    refine wpList_store_part rfl 23 _ _ rfl T 19 (.slice A17 h.2.length c17) [.slice A17 h.2.length c17] rfl rfl rfl 25 (Value.int .i64 a.2 :: (dl b.2 ++ Value.int .i64 d.2 :: (dl x.2 ++ [Value.slice A14 f.2.length c14]))) [Value.slice none 0 0] [Value.bool false] (by have := HT18.out; simpa [rtC] using this) (by simp [dl_len, HBO.out.len, HXO.out.len]) rfl (by kernel_rfl) (by intro v hv; simp at hv; subst hv; rfl) ?_
    intro w19 hp
    have hgr := hp.only
    have HZ19 := Lib.hid (HZ18.out.grown hgr (by intro h; injection h with h; omega))
    have HG19 := Lib.hid (HG18.out.grown hgr (by intro h; injection h with h; omega))
    try have HP19 := Lib.hid (own_only HP18.out hgr (own_bk_ne HP18.out HT18.out (by decide)))
    try have HQ19 := Lib.hid (own_only HQ18.out hgr (own_bk_ne HQ18.out HT18.out (by decide)))
    have HV19 := Lib.hid (HV18.out.below ((Below.refl w.heap.size w18).grown hgr (by have := HB18.out.size; omega) (fun q hq => by injection hq with hq; omega)))
    have HB19 := Lib.hid (HB18.out.grown hgr HB18.out.size (fun q hq => by injection hq with hq; omega))
    have hz19 : w18.heap.size ≤ w19.heap.size := hgr.size
    have HT19 : Hid (Bk w19 T 25 (rtC a.2 d.2 b.2 x.2 (.slice A14 f.2.length c14) (.slice A17 h.2.length c17) false)) := by show Bk _ _ _ _; have := hp.bk; simpa [rtC] using this
    clear hgr hp
    obtain ⟨y3, hy3⟩ : ∃ y3, rtC a.2 d.2 b.2 x.2 (.slice A14 f.2.length c14) (.slice A17 h.2.length c17) false = y3 := ⟨_, rfl⟩
    rw [hy3] at HT19
    have HY3 := Lib.hid hy3
    have HY30 : Hid (y3.length = 21) := by show _ = _; rw [← hy3, rtC_len HBO.out HXO.out]
    have HY3S : Hid ((Try.prog.info? 25).map (·.size) = some y3.length) := by show _ = _; rw [HY30.out]; exact rt_size
    have HY31 : Hid (∀ v ∈ y3, v.oneCell' = true) := by show ∀ v ∈ y3, v.oneCell' = true; rw [← hy3]; exact rt_one
    clear hy3
    go_wp2_with (with_reducible refine wpList_load_bk rfl 136 _ rfl g rfl X17 136 HG19.out _ Try.underlying136 rfl HXS17.out ?_)
    refine (rEnd_any _ w.heap.size _ _ HV19.out).mono ?_
    rintro e w20 ⟨rfl, hbn⟩
    have HZ20 := Lib.hid (HZ19.out.later hbn); have HT20 := Lib.hid (HT19.out.later hbn); have HB20 := Lib.hid (below_then HB19.out hbn)
    have HP20 := Lib.hid (own_keep HP19.out hbn); have HQ20 := Lib.hid (own_keep HQ19.out hbn)
    have hz20 : w19.heap.size ≤ w20.heap.size := hbn.size
    clear hbn
    by_cases hE : endR h.1 = 0
    · have hE1 : (endR h.1 != 0) = false := by simp [hE]
      have HOO : Hid (o = (⟨a.2, d.2, b.2, x.2, f.2, h.2⟩, 0)) := by show _ = _; rw [← HDE.out, rEndD, HFF.out, HHH.out, if_pos hE]
      clear hE
      go_wp2_with (first
        | (with_reducible refine wpList_load_bk rfl 25 _ rfl T rfl y3 25 HT20.out _ Try.underlying25 rfl HY3S.out ?_)
        | (with_reducible refine stop_store 25 _ _ rfl ?_))
      refine StopD.go ?_
      refine wpList_store_part rfl 25 _ _ rfl w.heap.size 0 (.agg y3.toArray) y3 rfl rfl rfl 25 [] z0 [] (by have := HZ20.out; simpa using this) rfl (by rw [HZ30.out, HY30.out]) HY3S.out HY31.out ?_
      intro w21 hp
      have HZ21 : Hid (Bk w21 w.heap.size 25 y3) := by show Bk _ _ _ _; have := hp.bk; simpa using this
      have HB21 := Lib.hid (HB20.out.grown hp.only HB20.out.size (fun q hq => by injection hq with hq; omega))
      have HP21 := Lib.hid (own_only HP20.out hp.only (own_bk_ne HP20.out HZ20.out (by decide)))
      have HQ21 := Lib.hid (own_only HQ20.out hp.only (own_bk_ne HQ20.out HZ20.out (by decide)))
      clear hp
      go_wp2_with fail
      refine bodyPost_ret (rdec_ret HY30.out HZ21.out _ rfl rfl) rfl ?_
      rw [HOO.out, ← HY3.out]
      exact ⟨A14, A17, f.2.length, c14, h.2.length, c17, rfl, Sl.of_own HP21.out, Sl.of_own HQ21.out, HFO.out, HHO.out, HB21.out⟩
    · have hE1 : (endR h.1 != 0) = true := by simp [hE]
      have HOO : Hid (o = (rg0, endR h.1)) := by show _ = _; rw [← HDE.out, rEndD, HFF.out, HHH.out, if_neg hE]
      have HBZ := Lib.hid z_rtb
      rw [HZZ.out] at HBZ
      clear hE
      go_wp2_with (first
        | (with_reducible refine wpList_build rfl 25 _ rfl #[] (by simp [Act.eval]) (.agg z0.toArray) (HBZ.out _) ?_)
        | (with_reducible refine stop_store 25 _ _ rfl ?_))
      refine StopD.go ?_
      refine wpList_store_part rfl 25 _ _ rfl w.heap.size 0 (.agg z0.toArray) z0 rfl rfl rfl 25 [] z0 [] (by have := HZ20.out; simpa using this) rfl rfl HZS.out HZ1C.out ?_
      intro w21 hp
      have HZ21 : Hid (Bk w21 w.heap.size 25 z0) := by show Bk _ _ _ _; have := hp.bk; simpa using this
      have HB21 := Lib.hid (HB20.out.grown hp.only HB20.out.size (fun q hq => by injection hq with hq; omega))
      clear hp
      go_wp2_with fail
      refine bodyPost_ret (rdec_ret HZ30.out HZ21.out _ rfl rfl) rfl ?_
      rw [HOO.out, ← HZZ.out]
      exact ⟨none, none, 0, 0, 0, 0, rfl, Sl.nil, Sl.nil, byOk_nil, byOk_nil, HB21.out⟩
  · have hk1 : (a.2 == 1) = false := by simp [hk]
    obtain ⟨x, hx⟩ : ∃ x, (d.1, zeroD) = x := ⟨_, rfl⟩
    have HDE : Hid (rEndD a.2 d.2 b.2 x = o) := by show _ = _; rw [← HDEC.out, decR, HA.out, HBB.out, HDD.out, decR1, if_neg hk, hx]
    have HXO : Hid (DgOk x.2) := by show DgOk _; rw [← hx]; exact zero_ok
    have e1 : d.1 = x.1 := by rw [← hx]
    have e2 : zeroD = x.2 := by rw [← hx]
    have HT13 : Hid (Bk w10 T 25 (rtC a.2 d.2 b.2 x.2 (.slice none 0 0) (.slice none 0 0) false)) := by show Bk _ _ _ _; rw [← e2]; exact HT10.out
    have HV13 : Hid (RvAt w10 w.heap.size (.agg X8.toArray) x.1) := by show RvAt _ _ _ _; rw [← e1]; exact HV10.out
    have HZ13 := HZ10; have HG13 := HG10; have HB13 := HB10
    obtain ⟨w13, hw13⟩ : ∃ w13, w10 = w13 := ⟨_, rfl⟩
    subst hw13
    clear hk hx e1 e2
    go_wp2_with (with_reducible refine wpList_load_bk rfl 136 _ rfl g rfl X8 136 HG13.out _ Try.underlying136 rfl HXS8.out ?_)
    refine (rSome_any _ w.heap.size (by omega) _ _ HV13.out 4096 (by omega) (by omega)).mono ?_
    obtain ⟨f, hf⟩ : ∃ f, someR x.1 4096 = f := ⟨_, rfl⟩
    rw [hf]
    rintro e w14 ⟨v', bv, rfl, hv', hown, hbn⟩
    obtain ⟨A14, c14, rfl⟩ := own_form hown
    have HFO : Hid (ByOk f.2) := by show ByOk _; rw [← hf]; exact some_ok HV13.out.ok
    have HFF := Lib.hid hf
    have HP14 := Lib.hid hown
    clear hf hown
    obtain ⟨X14, rfl, hx3, hx1⟩ := rv_form hv'
    have HV14 := Lib.hid hv'
    have HX314 := Lib.hid hx3
    have HX114 := Lib.hid hx1
    have HXS14 : Hid ((Try.prog.info? 136).map (·.size) = some X14.length) := by show _ = _; rw [hx3]; kernel_rfl
    try have HZ14 := Lib.hid (HZ13.out.later hbn)
    try have HT14 := Lib.hid (HT13.out.later hbn)
    try have HG14 := Lib.hid (HG13.out.later hbn)
    try have HP14 := Lib.hid (own_keep HP13.out hbn)
    try have HQ14 := Lib.hid (own_keep HQ13.out hbn)
    have HB14 := Lib.hid (below_then HB13.out hbn)
    have hz14 : w10.heap.size ≤ w14.heap.size := hbn.size
    clear hbn hv' hx3 hx1
    go_wp2_with (first
      | (with_reducible refine wpList_load_bk rfl 136 _ rfl g rfl X8 136 HG14.out _ Try.underlying136 rfl HXS8.out ?_)
      | (with_reducible refine stop_store 136 _ _ rfl ?_))
    refine StopD.go ?_
    refine wpList_store_part rfl 136 _ _ rfl g 0 (.agg X14.toArray) X14 rfl rfl rfl 136 [] X8 [] (by have := HG14.out; simpa using this) rfl (by rw [HX38.out, HX314.out]) HXS14.out HX114.out ?_
    intro w15 hp
    have HG15 : Hid (Bk w15 g 136 X14) := by show Bk _ _ _ _; have := hp.bk; simpa using this
    have hgr := hp.only
    have HZ15 := Lib.hid (HZ14.out.grown hgr (by intro h; injection h with h; omega))
    have HT15 := Lib.hid (HT14.out.grown hgr (by intro h; injection h with h; omega))
    try have HP15 := Lib.hid (own_only HP14.out hgr (own_bk_ne HP14.out HG14.out (by decide)))
    try have HQ15 := Lib.hid (own_only HQ14.out hgr (own_bk_ne HQ14.out HG14.out (by decide)))
    have HV15 := Lib.hid (HV14.out.below ((Below.refl w.heap.size w14).grown hgr (by have := HB14.out.size; omega) (fun q hq => by injection hq with hq; omega)))
    have HB15 := Lib.hid (HB14.out.grown hgr HB14.out.size (fun q hq => by injection hq with hq; omega))
    have hz15 : w14.heap.size ≤ w15.heap.size := hgr.size
    clear hgr hp
    go_wp2_with (with_reducible refine stop_store 23 _ _ rfl ?_)
    refine StopD.go ?_
    refine wpList_store_part rfl 23 _ _ rfl T 18 (.slice A14 f.2.length c14) [.slice A14 f.2.length c14] rfl rfl rfl 25 (Value.int .i64 a.2 :: (dl b.2 ++ Value.int .i64 d.2 :: dl x.2)) [Value.slice none 0 0] [Value.slice none 0 0, Value.bool false] (by have := HT15.out; simpa [rtC] using this) (by simp [dl_len, HBO.out.len, HXO.out.len]) rfl (by kernel_rfl) (by intro v hv; simp at hv; subst hv; rfl) ?_
    intro w16 hp
    have hgr := hp.only
    have HZ16 := Lib.hid (HZ15.out.grown hgr (by intro h; injection h with h; omega))
    have HG16 := Lib.hid (HG15.out.grown hgr (by intro h; injection h with h; omega))
    try have HP16 := Lib.hid (own_only HP15.out hgr (own_bk_ne HP15.out HT15.out (by decide)))
    try have HQ16 := Lib.hid (own_only HQ15.out hgr (own_bk_ne HQ15.out HT15.out (by decide)))
    have HV16 := Lib.hid (HV15.out.below ((Below.refl w.heap.size w15).grown hgr (by have := HB15.out.size; omega) (fun q hq => by injection hq with hq; omega)))
    have HB16 := Lib.hid (HB15.out.grown hgr HB15.out.size (fun q hq => by injection hq with hq; omega))
    have hz16 : w15.heap.size ≤ w16.heap.size := hgr.size
    have HT16 : Hid (Bk w16 T 25 (rtC a.2 d.2 b.2 x.2 (.slice A14 f.2.length c14) (.slice none 0 0) false)) := by show Bk _ _ _ _; have := hp.bk; simpa [rtC] using this
    clear hgr hp
    go_wp2_with (with_reducible refine wpList_load_bk rfl 136 _ rfl g rfl X14 136 HG16.out _ Try.underlying136 rfl HXS14.out ?_)
    refine (rSome_any _ w.heap.size (by omega) _ _ HV16.out 4096 (by omega) (by omega)).mono ?_
    obtain ⟨h, hh⟩ : ∃ h, someR f.1 4096 = h := ⟨_, rfl⟩
    rw [hh]
    rintro e w17 ⟨v', bv, rfl, hv', hown, hbn⟩
    obtain ⟨A17, c17, rfl⟩ := own_form hown
    have HHO : Hid (ByOk h.2) := by show ByOk _; rw [← hh]; exact some_ok HV16.out.ok
    have HHH := Lib.hid hh
    have HQ17 := Lib.hid hown
    clear hh hown
    obtain ⟨X17, rfl, hx3, hx1⟩ := rv_form hv'
    have HV17 := Lib.hid hv'
    have HX317 := Lib.hid hx3
    have HX117 := Lib.hid hx1
    have HXS17 : Hid ((Try.prog.info? 136).map (·.size) = some X17.length) := by show _ = _; rw [hx3]; kernel_rfl
    try have HZ17 := Lib.hid (HZ16.out.later hbn)
    try have HT17 := Lib.hid (HT16.out.later hbn)
    try have HG17 := Lib.hid (HG16.out.later hbn)
    try have HP17 := Lib.hid (own_keep HP16.out hbn)
    try have HQ17 := Lib.hid (own_keep HQ16.out hbn)
    have HB17 := Lib.hid (below_then HB16.out hbn)
    have hz17 : w16.heap.size ≤ w17.heap.size := hbn.size
    clear hbn hv' hx3 hx1
    go_wp2_with (first
      | (with_reducible refine wpList_load_bk rfl 136 _ rfl g rfl X14 136 HG17.out _ Try.underlying136 rfl HXS14.out ?_)
      | (with_reducible refine stop_store 136 _ _ rfl ?_))
    refine StopD.go ?_
    refine wpList_store_part rfl 136 _ _ rfl g 0 (.agg X17.toArray) X17 rfl rfl rfl 136 [] X14 [] (by have := HG17.out; simpa using this) rfl (by rw [HX314.out, HX317.out]) HXS17.out HX117.out ?_
    intro w18 hp
    have HG18 : Hid (Bk w18 g 136 X17) := by show Bk _ _ _ _; have := hp.bk; simpa using this
    have hgr := hp.only
    have HZ18 := Lib.hid (HZ17.out.grown hgr (by intro h; injection h with h; omega))
    have HT18 := Lib.hid (HT17.out.grown hgr (by intro h; injection h with h; omega))
    try have HP18 := Lib.hid (own_only HP17.out hgr (own_bk_ne HP17.out HG17.out (by decide)))
    try have HQ18 := Lib.hid (own_only HQ17.out hgr (own_bk_ne HQ17.out HG17.out (by decide)))
    have HV18 := Lib.hid (HV17.out.below ((Below.refl w.heap.size w17).grown hgr (by have := HB17.out.size; omega) (fun q hq => by injection hq with hq; omega)))
    have HB18 := Lib.hid (HB17.out.grown hgr HB17.out.size (fun q hq => by injection hq with hq; omega))
    have hz18 : w17.heap.size ≤ w18.heap.size := hgr.size
    clear hgr hp
    go_wp2_with (with_reducible refine stop_store 23 _ _ rfl ?_)
    refine StopD.go ?_
    refine wpList_store_part rfl 23 _ _ rfl T 19 (.slice A17 h.2.length c17) [.slice A17 h.2.length c17] rfl rfl rfl 25 (Value.int .i64 a.2 :: (dl b.2 ++ Value.int .i64 d.2 :: (dl x.2 ++ [Value.slice A14 f.2.length c14]))) [Value.slice none 0 0] [Value.bool false] (by have := HT18.out; simpa [rtC] using this) (by simp [dl_len, HBO.out.len, HXO.out.len]) rfl (by kernel_rfl) (by intro v hv; simp at hv; subst hv; rfl) ?_
    intro w19 hp
    have hgr := hp.only
    have HZ19 := Lib.hid (HZ18.out.grown hgr (by intro h; injection h with h; omega))
    have HG19 := Lib.hid (HG18.out.grown hgr (by intro h; injection h with h; omega))
    try have HP19 := Lib.hid (own_only HP18.out hgr (own_bk_ne HP18.out HT18.out (by decide)))
    try have HQ19 := Lib.hid (own_only HQ18.out hgr (own_bk_ne HQ18.out HT18.out (by decide)))
    have HV19 := Lib.hid (HV18.out.below ((Below.refl w.heap.size w18).grown hgr (by have := HB18.out.size; omega) (fun q hq => by injection hq with hq; omega)))
    have HB19 := Lib.hid (HB18.out.grown hgr HB18.out.size (fun q hq => by injection hq with hq; omega))
    have hz19 : w18.heap.size ≤ w19.heap.size := hgr.size
    have HT19 : Hid (Bk w19 T 25 (rtC a.2 d.2 b.2 x.2 (.slice A14 f.2.length c14) (.slice A17 h.2.length c17) false)) := by show Bk _ _ _ _; have := hp.bk; simpa [rtC] using this
    clear hgr hp
    obtain ⟨y3, hy3⟩ : ∃ y3, rtC a.2 d.2 b.2 x.2 (.slice A14 f.2.length c14) (.slice A17 h.2.length c17) false = y3 := ⟨_, rfl⟩
    rw [hy3] at HT19
    have HY3 := Lib.hid hy3
    have HY30 : Hid (y3.length = 21) := by show _ = _; rw [← hy3, rtC_len HBO.out HXO.out]
    have HY3S : Hid ((Try.prog.info? 25).map (·.size) = some y3.length) := by show _ = _; rw [HY30.out]; exact rt_size
    have HY31 : Hid (∀ v ∈ y3, v.oneCell' = true) := by show ∀ v ∈ y3, v.oneCell' = true; rw [← hy3]; exact rt_one
    clear hy3
    go_wp2_with (with_reducible refine wpList_load_bk rfl 136 _ rfl g rfl X17 136 HG19.out _ Try.underlying136 rfl HXS17.out ?_)
    refine (rEnd_any _ w.heap.size _ _ HV19.out).mono ?_
    rintro e w20 ⟨rfl, hbn⟩
    have HZ20 := Lib.hid (HZ19.out.later hbn); have HT20 := Lib.hid (HT19.out.later hbn); have HB20 := Lib.hid (below_then HB19.out hbn)
    have HP20 := Lib.hid (own_keep HP19.out hbn); have HQ20 := Lib.hid (own_keep HQ19.out hbn)
    have hz20 : w19.heap.size ≤ w20.heap.size := hbn.size
    clear hbn
    by_cases hE : endR h.1 = 0
    · have hE1 : (endR h.1 != 0) = false := by simp [hE]
      have HOO : Hid (o = (⟨a.2, d.2, b.2, x.2, f.2, h.2⟩, 0)) := by show _ = _; rw [← HDE.out, rEndD, HFF.out, HHH.out, if_pos hE]
      clear hE
      go_wp2_with (first
        | (with_reducible refine wpList_load_bk rfl 25 _ rfl T rfl y3 25 HT20.out _ Try.underlying25 rfl HY3S.out ?_)
        | (with_reducible refine stop_store 25 _ _ rfl ?_))
      refine StopD.go ?_
      refine wpList_store_part rfl 25 _ _ rfl w.heap.size 0 (.agg y3.toArray) y3 rfl rfl rfl 25 [] z0 [] (by have := HZ20.out; simpa using this) rfl (by rw [HZ30.out, HY30.out]) HY3S.out HY31.out ?_
      intro w21 hp
      have HZ21 : Hid (Bk w21 w.heap.size 25 y3) := by show Bk _ _ _ _; have := hp.bk; simpa using this
      have HB21 := Lib.hid (HB20.out.grown hp.only HB20.out.size (fun q hq => by injection hq with hq; omega))
      have HP21 := Lib.hid (own_only HP20.out hp.only (own_bk_ne HP20.out HZ20.out (by decide)))
      have HQ21 := Lib.hid (own_only HQ20.out hp.only (own_bk_ne HQ20.out HZ20.out (by decide)))
      clear hp
      go_wp2_with fail
      refine bodyPost_ret (rdec_ret HY30.out HZ21.out _ rfl rfl) rfl ?_
      rw [HOO.out, ← HY3.out]
      exact ⟨A14, A17, f.2.length, c14, h.2.length, c17, rfl, Sl.of_own HP21.out, Sl.of_own HQ21.out, HFO.out, HHO.out, HB21.out⟩
    · have hE1 : (endR h.1 != 0) = true := by simp [hE]
      have HOO : Hid (o = (rg0, endR h.1)) := by show _ = _; rw [← HDE.out, rEndD, HFF.out, HHH.out, if_neg hE]
      have HBZ := Lib.hid z_rtb
      rw [HZZ.out] at HBZ
      clear hE
      go_wp2_with (first
        | (with_reducible refine wpList_build rfl 25 _ rfl #[] (by simp [Act.eval]) (.agg z0.toArray) (HBZ.out _) ?_)
        | (with_reducible refine stop_store 25 _ _ rfl ?_))
      refine StopD.go ?_
      refine wpList_store_part rfl 25 _ _ rfl w.heap.size 0 (.agg z0.toArray) z0 rfl rfl rfl 25 [] z0 [] (by have := HZ20.out; simpa using this) rfl rfl HZS.out HZ1C.out ?_
      intro w21 hp
      have HZ21 : Hid (Bk w21 w.heap.size 25 z0) := by show Bk _ _ _ _; have := hp.bk; simpa using this
      have HB21 := Lib.hid (HB20.out.grown hp.only HB20.out.size (fun q hq => by injection hq with hq; omega))
      clear hp
      go_wp2_with fail
      refine bodyPost_ret (rdec_ret HZ30.out HZ21.out _ rfl rfl) rfl ?_
      rw [HOO.out, ← HZZ.out]
      exact ⟨none, none, 0, 0, 0, 0, rfl, Sl.nil, Sl.nil, byOk_nil, byOk_nil, HB21.out⟩
end Go.Proofs.Ythibihjblodfmaa
