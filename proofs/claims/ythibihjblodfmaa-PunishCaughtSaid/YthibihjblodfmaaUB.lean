/- A deed's thing, signed. -/
import Derived.Test.YthibihjblodfmaaU7
import Derived.Test.YthibihjblodfmaaS10
import Derived.Test.YthibihjblodfmaaRL
namespace Go.Proofs.Ythibihjblodfmaa
open Go.RowKit Go.Maps

/-- One of two tables. -/
def tabD (b : Bool) : List Int := [if b then 2 else 1, 0, 0, 0, 0, 0, 0, 0]
theorem tabD_ok (b : Bool) : DgOk (tabD b) := ⟨rfl, fun x hx => by cases b <;> simp [tabD] at hx <;> omega⟩
theorem table_ret {w : World} {g : Nat} {t : List Int} (ht : DgOk t) (h : Bk w g 29 (dl t)) (tmps : Array Value) (h2 : tmps.getD 2 undef = .pointer (some ⟨g, 0, none⟩)) :
    (results Try.f39 tmps).run Try.prog w = .ok (.agg (dl t).toArray) w := by
  have r1 : w.rangeAt g 0 (dl t) := Bk.range (pre := []) (post := []) (by simpa using h) rfl
  have l1 := run_loadVar_mid (P := Try.prog) w g 0 29 (dl t) _ r1 Try.underlying29 rfl (dg_sz ht)
  rw [Array.getD_eq_getD_getElem?] at h2
  simp [results, Try.results39, h2, asAddr, l1]
theorem table_any (w : World) (b : Bool) : Calls Try.prog 39 #[.bool b] w fun e w' => e = .returned (.agg (dl (tabD b)).toArray) ∧ Below w.heap.size w w' := by
  obtain ⟨w1, hw1⟩ : ∃ w1, w.alloc (.cells #[.int .u8 0, .int .u8 0, .int .u8 0, .int .u8 0, .int .u8 0, .int .u8 0, .int .u8 0, .int .u8 0] 29) = w1 := ⟨_, rfl⟩
  have hb1 : Below w.heap.size w w1 := hw1 ▸ below_new w _
  have kz : Bk w1 w.heap.size 29 ([] ++ (dl zeroD ++ [])) := hw1 ▸ Bk.new' w _ #[.int .u8 0, .int .u8 0, .int .u8 0, .int .u8 0, .int .u8 0, .int .u8 0, .int .u8 0, .int .u8 0] rfl
  have HW := Lib.hid hw1; have HB1 := Lib.hid hb1; have HZ1 := Lib.hid kz
  clear hw1 hb1 kz
  go_enter Try.func39, Try.ntmps39
  go_upto_region 1 with fail
  rw [HW.out]
  cases b
  ·
    go_wp2_with (with_reducible refine stop_store 29 _ _ rfl ?_)
    refine StopD.go ?_
    refine wpList_store_part rfl 29 _ _ rfl w.heap.size 0 (.agg (dl (tabD false)).toArray) (dl (tabD false)) rfl rfl rfl 29 [] (dl zeroD) [] HZ1.out rfl rfl (dg_sz (tabD_ok false)) (dl_one _) ?_
    intro w9 hp
    have HZ9 : Hid (Bk w9 w.heap.size 29 (dl (tabD false))) := by show Bk _ _ _ _; have := hp.bk; simpa using this
    have HB9 := Lib.hid (below_only HB1.out hp.only HB1.out.size (Nat.le_refl _))
    clear hp
    go_wp2_with fail
    refine bodyPost_ret (table_ret (tabD_ok false) HZ9.out _ rfl) rfl ?_
    exact ⟨rfl, HB9.out⟩
  ·
    go_wp2_with (with_reducible refine stop_store 29 _ _ rfl ?_)
    refine StopD.go ?_
    refine wpList_store_part rfl 29 _ _ rfl w.heap.size 0 (.agg (dl (tabD true)).toArray) (dl (tabD true)) rfl rfl rfl 29 [] (dl zeroD) [] HZ1.out rfl rfl (dg_sz (tabD_ok true)) (dl_one _) ?_
    intro w9 hp
    have HZ9 : Hid (Bk w9 w.heap.size 29 (dl (tabD true))) := by show Bk _ _ _ _; have := hp.bk; simpa using this
    have HB9 := Lib.hid (below_only HB1.out hp.only HB1.out.size (Nat.le_refl _))
    clear hp
    go_wp2_with fail
    refine bodyPost_ret (table_ret (tabD_ok true) HZ9.out _ rfl) rfl ?_
    exact ⟨rfl, HB9.out⟩
theorem build_d8 (x : Int) (w : World) : (Instr.build 22 #[(0, .int .u8 x)]).run Try.prog w = .ok (.agg (dl [x, 0, 0, 0, 0, 0, 0, 0]).toArray) w := by kernel_rfl
theorem build_rt5 (k n : Int) (t v : List Int) (ht : DgOk t) (hv : DgOk v) (A : Option Addr) (N C : Nat) (w : World) :
    (Instr.build 25 #[(0, .int .i64 k), (1, .agg (dl t).toArray), (2, .int .i64 n), (3, .agg (dl v).toArray), (4, .slice A N C)]).run Try.prog w = .ok (.agg (rtC k n t v (.slice A N C) (.slice none 0 0) false).toArray) w := by
  obtain ⟨t0, t1, t2, t3, t4, t5, t6, t7, rfl⟩ := list8 t ht.len
  obtain ⟨v0, v1, v2, v3, v4, v5, v6, v7, rfl⟩ := list8 v hv.len
  kernel_rfl
/-- A deed, and its thing. -/
structure DeT where
  seat : Int
  kind : Int
  n : Int
  bs : List Int
  tb : Bool
  pl : Int
  sp : Bool
def deC (D : DeT) (p : Value) : List Value := [.int .i64 D.seat, .int .i64 D.kind, .int .i64 D.n, p, .bool D.tb, .int .u8 D.pl, .bool D.sp]
def plD (x : Int) : List Int := [x % 2, 0, 0, 0, 0, 0, 0, 0]
theorem plD_ok (x : Int) : DgOk (plD x) := ⟨rfl, fun b hb => by simp [plD] at hb; omega⟩
def deR (D : DeT) : RtT := ⟨D.kind % 2, D.n, tabD D.tb, plD D.pl, D.bs, [], false⟩
def deE (D : DeT) : Ent := (keyD D.seat, dgT (toT (deR D)))
def deS (D : DeT) (es : List Ent) : List Int := sigB (es.idxOf (deE D)) ++ if D.sp then [1] else []
def deT (D : DeT) (es : List Ent) : Tg := toT { deR D with ss := deS D es }
/-- What a deed's bytes and numbers are. -/
structure DeOk (w1 : World) (D : DeT) (A : Option Addr) (N : Nat) : Prop where
  sl : Sl w1 w1.heap.size 1 A N (D.bs.map (.int .u8))
  bo : ByOk D.bs
  bl : D.bs.length ≤ 60
  n0 : -9223372036854775808 ≤ D.n
  n1 : D.n < 9223372036854775808
  p0 : 0 ≤ D.pl
  p1 : D.pl < 256
theorem DeOk.rth {w1 w : World} {D : DeT} {A : Option Addr} {N : Nat} (h : DeOk w1 D A N) (C : Nat) : RthK w1 w (rtC (D.kind % 2) D.n (tabD D.tb) (plD D.pl) (.slice A N C) (.slice none 0 0) false) (deR D) :=
  ⟨⟨A, none, N, C, 0, 0, rfl, .inl h.sl, GSl.nil⟩, tabD_ok _, plD_ok _, h.bo, fun b hb => by simp [deR] at hb, h.n0, h.n1, by show D.bs.length ≤ _; have := h.bl; omega⟩
structure DeM (w : World) (g : Nat) (D : DeT) (p : Value) : Prop where
  c0 : w.cell? ⟨g, 0, none⟩ = some (.int .i64 D.seat)
  c1 : w.cell? ⟨g, 1, none⟩ = some (.int .i64 D.kind)
  c2 : w.cell? ⟨g, 2, none⟩ = some (.int .i64 D.n)
  c3 : w.cell? ⟨g, 3, none⟩ = some p
  c4 : w.cell? ⟨g, 4, none⟩ = some (.bool D.tb)
  c5 : w.cell? ⟨g, 5, none⟩ = some (.int .u8 D.pl)
  c6 : w.cell? ⟨g, 6, none⟩ = some (.bool D.sp)
theorem de_mem {w : World} {g : Nat} {D : DeT} {p : Value} (h : Bk w g 70 (deC D p)) : DeM w g D p := by
  constructor <;> (rw [h.cell]; rfl)
theorem kind_run (k : Int) : IntKind.i64.wrap ((IntKind.u64.wrap k).tmod 2) = k % 2 := by
  rw [IntWalk.i64_in]
  · simp only [IntKind.wrap_u64]
    rw [Int.tmod_eq_emod_of_nonneg (by omega)]
    omega
  · simp only [IntKind.wrap_u64]
    rw [Int.tmod_eq_emod_of_nonneg (by omega)]
    omega
/-- A thing but for its signature: it bears whatever signature lies in its last cell. -/
structure PreT (w1 : World) (pre : List Value) (R : RtT) : Prop where
  len : pre.length = 29
  all : ∀ (w : World) (A : Option Addr) (N C : Nat) (ss : List Int), GSl w1 w A N C ss → ByOk ss → ThK w1 w (pre ++ [.slice A N C]) (toT { R with ss := ss })
theorem PreT.nil {w1 : World} {pre : List Value} {R : RtT} (h : PreT w1 pre R) (w : World) : ThK w1 w (pre ++ [.slice none 0 0]) (toT { R with ss := [] }) := h.all w none 0 0 [] GSl.nil (fun b hb => by simp at hb)
theorem ofP {w1 w : World} {D : DeT} {A : Option Addr} {N : Nat} (h : DeOk w1 D A N) (C : Nat) : Calls Try.prog 17 #[.agg (rtC (D.kind % 2) D.n (tabD D.tb) (plD D.pl) (.slice A N C) (.slice none 0 0) false).toArray] w fun e w' => (∃ pre, e = .returned (.agg (pre ++ [Value.slice none 0 0]).toArray) ∧ PreT w1 pre (deR D)) ∧ Below w.heap.size w w' := by
  refine (of_any w (D.kind % 2) D.n (tabD D.tb) (plD D.pl) (tabD_ok _) (plD_ok _) A none N C 0 0 false).mono ?_
  rintro e w' ⟨hret, hbel⟩
  refine ⟨?_, hbel⟩
  have hbl : D.bs.length ≤ 1073741824 := by have := h.bl; omega
  by_cases hk : D.kind % 2 = 0
  · rw [if_pos hk] at hret
    refine ⟨.int .i64 (D.kind % 2) :: (staC D.n (tabD D.tb) (.slice A N C) ++ actC 0 zeroD zeroD (.slice none 0 0)), by rw [hret]; simp [thC], by simp [staC_len (tabD_ok _), actC_len zero_ok zero_ok], fun w'' A' N' C' ss' hg ho => ?_⟩
    unfold toT
    rw [if_pos (show (deR D).k = 0 from hk)]
    exact ⟨⟨A, none, A', N, 0, N', C, 0, C', by simp [thC, deR], .inl h.sl, GSl.nil, hg⟩, h.bo, fun b hb => by simp at hb, ho, tabD_ok _, zero_ok, zero_ok, ⟨h.n0, h.n1, by show _ ≤ (if (false : Bool) = true then (1 : Int) else 0); decide, by show (if (false : Bool) = true then (1 : Int) else 0) < _; decide, hbl, by simp⟩⟩
  · rw [if_neg hk] at hret
    obtain ⟨p, rfl, hp⟩ := hret
    have hp' : p = .slice none 0 0 := by simpa using hp
    subst hp'
    refine ⟨.int .i64 (D.kind % 2) :: (staC 0 zeroD (.slice none 0 0) ++ actC D.n (tabD D.tb) (plD D.pl) (.slice A N C)), by simp [thC], by simp [staC_len zero_ok, actC_len (tabD_ok _) (plD_ok _)], fun w'' A' N' C' ss' hg ho => ?_⟩
    unfold toT
    rw [if_neg (show ¬ (deR D).k = 0 from hk)]
    exact ⟨⟨none, A, A', 0, N, N', 0, C, C', by simp [thC, deR], GSl.nil, .inl h.sl, hg⟩, fun b hb => by simp [deR] at hb, h.bo, ho, zero_ok, tabD_ok _, plD_ok _, ⟨by show (-9223372036854775808 : Int) ≤ 0; decide, by show (0 : Int) < 9223372036854775808; decide, h.n0, h.n1, by simp [deR], hbl⟩⟩
end Go.Proofs.Ythibihjblodfmaa
