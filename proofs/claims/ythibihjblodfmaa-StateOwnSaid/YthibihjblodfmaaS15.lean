/- A signed state, cut to what can be looked at: the program's and the document's. -/
import Derived.Test.YthibihjblodfmaaS14
namespace Go.Proofs.Ythibihjblodfmaa
open Go.RowKit Go.Maps

def fewP (p : Pc) : Pc := ⟨p.A, min p.n 5000, p.c, p.bs.take (min p.n 5000)⟩
def fewQ (qs : List Pc) : List Pc := (qs.take 12).map fewP
def PcsCap (qs : List Pc) : Prop := ∀ p ∈ qs, p.n ≤ p.c
theorem fewQ_mem {qs : List Pc} {p : Pc} (h : p ∈ fewQ qs) : ∃ q ∈ qs, p = fewP q := by
  obtain ⟨q, hq, e⟩ := List.mem_map.1 h
  exact ⟨q, List.mem_of_mem_take hq, e.symm⟩
theorem PcsOk.few {w : World} {qs : List Pc} (h : PcsOk w qs) : PcsOk w (fewQ qs) := fun p hp => by
  obtain ⟨q, hq, rfl⟩ := fewQ_mem hp
  exact (h q hq).head1 (Nat.min_le_left _ _)
theorem PcsBy.few {qs : List Pc} (h : PcsBy qs) : PcsBy (fewQ qs) := fun p hp => by
  obtain ⟨q, hq, rfl⟩ := fewQ_mem hp
  exact (h q hq).take _
theorem PcsCap.few {qs : List Pc} (h : PcsCap qs) : PcsCap (fewQ qs) := fun p hp => by
  obtain ⟨q, hq, rfl⟩ := fewQ_mem hp
  exact Nat.le_trans (Nat.min_le_left _ _) (h q hq)
theorem few_n {qs : List Pc} : ∀ p ∈ fewQ qs, p.n ≤ 5000 := fun p hp => by
  obtain ⟨q, hq, rfl⟩ := fewQ_mem hp
  exact Nat.min_le_right _ _
theorem few_len (qs : List Pc) : (fewQ qs).length = min qs.length 12 := by simp [fewQ, Nat.min_comm]
theorem bs_p1 (A : Option Addr) (n c : Nat) (w : World) : (Instr.buildSlice 90 1 #[(0, .slice A n c)]).run Try.prog w = .ok (.slice (some ⟨w.heap.size, 0, none⟩) 1 1) (w.alloc (.cells ([Value.slice A n c]).toArray 23)) := by kernel_rfl
theorem sgz_one (_cs : List Value) : True := trivial
theorem sg_info {n : Int} {t : List Int} {p q : Value} (h : DgOk t) : (Try.prog.info? 101).map (·.size) = some (sgC n t p q).length := by rw [sgC_len h]; exact sg_size
theorem rsg_info {n : Int} {t : List Int} {p q : Value} (h : DgOk t) : (Try.prog.info? 105).map (·.size) = some (sgC n t p q).length := by rw [sgC_len h]; exact rsg_size
theorem build_rst {n : Int} {t : List Int} (ht : DgOk t) (A : Option Addr) (N C : Nat) (w : World) : (Instr.build 103 #[(0, .agg (dl t).toArray), (1, .int .i64 n), (2, .slice A N C)]).run Try.prog w = .ok (.agg (staC n t (.slice A N C)).toArray) w := by
  obtain ⟨x0, x1, x2, x3, x4, x5, x6, x7, rfl⟩ := list8 t ht.len
  kernel_rfl
theorem build_rsg {n : Int} {t : List Int} (ht : DgOk t) (A B : Option Addr) (N C M D : Nat) (w : World) : (Instr.build 105 #[(0, .agg (staC n t (.slice A N C)).toArray), (1, .slice B M D)]).run Try.prog w = .ok (.agg (sgC n t (.slice A N C) (.slice B M D)).toArray) w := by
  obtain ⟨x0, x1, x2, x3, x4, x5, x6, x7, rfl⟩ := list8 t ht.len
  kernel_rfl
theorem plain_ret {w : World} {g g' : Nat} {n : Int} {t : List Int} {p q : Value} (ht : DgOk t) (h : Bk w g 101 (sgC n t p q)) (h' : Bk w g' 105 (sgC n t p q)) (tmps : Array Value) (h2 : tmps.getD 2 undef = .pointer (some ⟨g, 0, none⟩)) (h3 : tmps.getD 3 undef = .pointer (some ⟨g', 0, none⟩)) :
    (results Try.f52 tmps).run Try.prog w = .ok (.tuple #[.agg (sgC n t p q).toArray, .agg (sgC n t p q).toArray]) w := by
  have r1 : w.rangeAt g 0 (sgC n t p q) := Bk.range (pre := []) (post := []) (by simpa using h) rfl
  have r2 : w.rangeAt g' 0 (sgC n t p q) := Bk.range (pre := []) (post := []) (by simpa using h') rfl
  have l1 := run_loadVar_mid (P := Try.prog) w g 0 101 (sgC n t p q) _ r1 Try.underlying101 rfl (sg_info ht)
  have l2 := run_loadVar_mid (P := Try.prog) w g' 0 105 (sgC n t p q) _ r2 Try.underlying105 rfl (rsg_info ht)
  rw [Array.getD_eq_getD_getElem?] at h2 h3
  simp [results, Try.results52, h2, h3, asAddr, l1, l2]
/-- What it hands back. -/
def RetPl (n : Int) (t : List Int) (A : Option Addr) (N C : Nat) (qs : List Pc) (w : World) (e : Ending) (w' : World) : Prop :=
  ∃ (Q : Option Addr) (cq : Nat), e = .returned (.tuple #[.agg (sgC n t (.slice A (min N 5000) C) (.slice Q (min qs.length 12) cq)).toArray, .agg (sgC n t (.slice A (min N 5000) C) (.slice Q (min qs.length 12) cq)).toArray]) ∧ w'.ownsRow w.heap.size 23 1 (.slice Q (min qs.length 12) cq) (min qs.length 12) ((fewQ qs).map Pc.v) ∧ Below w.heap.size w w'

set_option maxRecDepth 20000 in
set_option maxHeartbeats 4000000 in
theorem plain_any (w : World) (t : List Int) (ht : DgOk t) (n : Int) (A B : Option Addr) (N C M D : Nat) (hNC : N ≤ C) (qs : List Pc) (hq : Sl w w.heap.size 1 B M (qs.map Pc.v)) (hqc : PcsCap qs) :
    Calls Try.prog 52 #[.agg (sgC n t (.slice A N C) (.slice B M D)).toArray] w (RetPl n t A N C qs w) := by
  obtain ⟨X, hX⟩ : ∃ X, (sgC n t (.slice A N C) (.slice B M D)).toArray = X := ⟨_, rfl⟩
  obtain ⟨w1, hw1⟩ : ∃ w1, ((w.alloc (.cells X 101)).alloc (.cells #[.int .u8 0, .int .u8 0, .int .u8 0, .int .u8 0, .int .u8 0, .int .u8 0, .int .u8 0, .int .u8 0, .int .i64 0, .slice none 0 0, .slice none 0 0] 101)).alloc (.cells #[.int .u8 0, .int .u8 0, .int .u8 0, .int .u8 0, .int .u8 0, .int .u8 0, .int .u8 0, .int .u8 0, .int .i64 0, .slice none 0 0, .slice none 0 0] 105) = w1 := ⟨_, rfl⟩
  have hb1 : Below w.heap.size w w1 := hw1 ▸ ((below_new w _).alloc (by simp) _).alloc (by simp <;> omega) _
  have kx : Bk w1 w.heap.size 101 (sgC n t (.slice A N C) (.slice B M D)) := hw1 ▸ ((Bk.new' w _ X (by rw [← hX])).alloc _).alloc _
  have ky : Bk w1 (w.heap.size + 1) 101 (sgC 0 zeroD (.slice none 0 0) (.slice none 0 0)) := hw1 ▸ (Bk.at_ _ _ _ (by simp) rfl).alloc _
  have kz : Bk w1 (w.heap.size + 2) 105 (sgC 0 zeroD (.slice none 0 0) (.slice none 0 0)) := hw1 ▸ Bk.at_ _ _ _ (by simp) rfl
  have HW := Lib.hid hw1; have HBB1 := Lib.hid hb1; have HA1 := Lib.hid kx; have HY1 := Lib.hid ky; have HZ1 := Lib.hid kz; have HTO := Lib.hid ht
  have HQ0 := Lib.hid hq; have HQC := Lib.hid hqc; have HQL := Lib.hid hq.length
  have HFEW := Lib.hid (fun w => few_any w A N C hNC)
  have HMQ : Hid (min qs.length 12 = min M 12) := by show _ = _; rw [hq.length]
  unfold RetPl
  rw [HMQ.out]
  obtain ⟨KA, hKA⟩ : ∃ K, min N 5000 = K := ⟨_, rfl⟩
  rw [hKA] at HFEW ⊢
  obtain ⟨KB, hKB⟩ : ∃ K, min M 12 = K := ⟨_, rfl⟩
  have hKl : KB ≤ M ∧ KB ≤ 12 ∧ (KB < M → KB = 12) := by omega
  have HFQ : Hid ((qs.take KB).map fewP = fewQ qs) := by
    show _ = _
    rw [fewQ, ← hKB]
    by_cases h12 : M ≤ 12
    · rw [Nat.min_eq_left h12, List.take_of_length_le (by rw [HQL.out]; omega), List.take_of_length_le (by rw [HQL.out]; omega)]
    · rw [Nat.min_eq_right (by omega)]
  rw [hKB]
  clear HMQ hKB
  have hMle := hq.le
  have HPL : Hid ((dl t ++ [Value.int .i64 n]).length = 9) := by show _ = _; simp [dl_len, ht.len]
  have HPQ : Hid ((dl t ++ [Value.int .i64 n, .slice A KA C]).length = 10) := by show _ = _; simp [dl_len, ht.len]
  have HTD := Lib.hid (hdg_size t ht)
  have HBS := Lib.hid (fun W => build_rst (n := n) ht A KA C W)
  obtain ⟨iP, hPi, hPz, hPs, hPb⟩ := info_parts Try.infoSlB
  rw [hX]
  clear hX hw1 hb1 kx ky kz ht hq hqc hKA
  go_enter Try.func52, Try.ntmps52
  go_upto_region 1 with fail
  rw [HW.out]
  have hc9 := (sg_mem HTO.out HA1.out).c9
  go_wp2_with fail
  refine (HFEW.out w1).mono ?_
  rintro e w2 ⟨rfl, rfl⟩
  go_wp2_with (with_reducible refine stop_store 23 _ _ rfl ?_)
  refine StopD.go ?_
  have HA1' := HA1
  rw [sg_preP] at HA1'
  refine wpList_store_part rfl 23 _ _ rfl w.heap.size 9 (.slice A KA C) [.slice A KA C] rfl rfl rfl 101 (dl t ++ [.int .i64 n]) [.slice A N C] [.slice B M D] HA1'.out HPL.out rfl (by kernel_rfl) (by simp [Value.oneCell']) ?_
  intro w2 hp
  have HA2 : Hid (Bk w2 w.heap.size 101 (sgC n t (.slice A KA C) (.slice B M D))) := by show Bk _ _ _ _; rw [sg_preP]; exact hp.bk
  have HY2 := Lib.hid (HY1.out.grown hp.only (by intro h; injection h with h; omega)); have HZ2 := Lib.hid (HZ1.out.grown hp.only (by intro h; injection h with h; omega))
  have HBB2 := Lib.hid (below_only HBB1.out hp.only HBB1.out.size (Nat.le_refl _))
  clear hp HA1' hc9
  have HB2 : Hid (w.heap.size ≤ w2.heap.size) := HBB2.out.size
  go_wp2_with fail
  go_loopw [4, 5] (fun lv iv wr => ∃ k : Nat, k ≤ KB ∧ iv = .int .i64 k ∧ Hid (wr.ownsRow w2.heap.size 23 1 lv k (((qs.take k).map fewP).map Pc.v)) ∧ Hid (Below w2.heap.size w2 wr)) (fun _ iv _ => KB - (intOf iv).toNat)
  case atStart => exact ⟨0, Nat.zero_le _, rfl, World.ownsRow_nil _ _ _ _, Below.refl _ _⟩
  case round =>
    obtain ⟨k, hk, rfl, HO, HR⟩ := hrel
    have hc10 := (sg_mem HTO.out (HA2.out.later HR.out)).c10
    by_cases hlt : k < KB
    · have hk1 : k < M := by omega
      have hk2 : (k : Int) < M := by omega
      have hk3 : decide ((k : Int) < M) = true := by simp; omega
      have hk4 : decide ((k : Int) < 12) = true := by simp; omega
      have hk5 : (k : Int) < 12 := by omega
      obtain ⟨b, o, p, rfl, hpk, _, hcc⟩ := pc_at (HQ0.out.later (below_then HBB2.out HR.out)) hk1
      have HPK := Lib.hid hpk
      have hcap := HQC.out p (List.mem_of_getElem? hpk)
      clear hpk
      go_wp2_with fail
      refine (few_any wr p.A p.n p.c hcap).mono ?_
      rintro e w3 ⟨rfl, rfl⟩
      go_wp2_with (with_reducible refine stop_bs 90 1 _ rfl ?_)
      refine StopD.go ?_
      (with_reducible refine wpList_bsliceG ?_ 90 1 _ rfl #[(0, .slice p.A (min p.n 5000) p.c)] ?_ 23 [Value.slice p.A (min p.n 5000) p.c] (bs_p1 p.A (min p.n 5000) p.c) ?_)
      · rfl
      · simp [Act.eval]
      intro q4 w4 _ hq4 hbn
      have HQ4 : Hid (Sl w4 w4.heap.size 1 (some ⟨q4, 0, none⟩) 1 [Value.slice p.A (min p.n 5000) p.c]) := hq4.sl1 rfl (by omega)
      have HO4 := Lib.hid (HO.out.later hbn)
      have HR4 := Lib.hid (below_then HR.out hbn)
      clear hq4 hbn hc10 hcc
      go_wp2_with (at_builtin; refine wpList_app _ rfl (.tmp 23) (.tmp 30) 90 rfl w2.heap.size 23 iP (.slice none 0 0) 1 24 Try.underlying90 hPi hPz hPs hPb rfl (by decide) _ k _ rfl HO4.out _ _ 1 1 [Value.slice p.A (min p.n 5000) p.c] rfl HQ4.out (by simp [Value.oneCell']) (by unfold maxLen; omega) (by omega) HR4.out.size ?_; intro v5 w5 hown hg hat; refine stop_here ?_)
      refine StopD.go ?_
      have HR5 := Lib.hid (grown_below HR4.out HO4.out hg (Nat.le_refl _) HR4.out.size)
      have HO5 : Hid (w5.ownsRow w2.heap.size 23 1 v5 (k + 1) (((qs.take (k + 1)).map fewP).map Pc.v)) := by
        show World.ownsRow _ _ _ _ _ _ _
        rw [take_snoc HPK.out, List.map_append, List.map_append]; exact hown
      clear hown hg hat
      go_wp2_with fail
      go_roundw
      case rel => exact ⟨k + 1, by omega, by go_num, HO5.out, HR5.out⟩
      case measure => simp [intOf]; omega
    · have hkk : KB = k := by omega
      subst hkk
      rw [HFQ.out] at HO
      clear hlt hk HFQ
      have HBBr := Lib.hid (below_then HBB2.out HR.out); have HAr := Lib.hid (HA2.out.later HR.out); have HYr := Lib.hid (HY2.out.later HR.out); have HZr := Lib.hid (HZ2.out.later HR.out)
      obtain ⟨Q, cq, rfl⟩ := own_form HO.out
      have HORG : Hid (w2.heap.size ≤ wr.heap.size) := HR.out.size
      have HBR : Hid (w.heap.size + 2 < w2.heap.size) := HZ2.out.lt
      have HOr := HO
      by_cases hKM : KB < M
      · have h1 : (KB : Int) < M := by omega
        have h2 : decide ((KB : Int) < M) = true := by simp; omega
        have h3 : ¬ ((KB : Int) < 12) := by omega
        have h4 : decide ((KB : Int) < 12) = false := by simp; omega
        go_wp2_with (with_reducible refine stop_store 90 _ _ rfl ?_)
        refine StopD.go ?_
        rw [sg_preQ] at HAr
        refine wpList_store_part rfl 90 _ _ rfl w.heap.size 10 (.slice Q KB cq) [.slice Q KB cq] rfl rfl rfl 101 (dl t ++ [.int .i64 n, .slice A KA C]) [.slice B M D] [] HAr.out HPQ.out rfl (by kernel_rfl) (by simp [Value.oneCell']) ?_
        intro w6 hp
        have HA6 : Hid (Bk w6 w.heap.size 101 (sgC n t (.slice A KA C) (.slice Q KB cq))) := by show Bk _ _ _ _; rw [sg_preQ]; exact hp.bk
        have HY6 := Lib.hid (HYr.out.grown hp.only (by intro h; injection h with h; omega)); have HZ6 := Lib.hid (HZr.out.grown hp.only (by intro h; injection h with h; omega))
        have HBB6 := Lib.hid (below_only HBBr.out hp.only HBBr.out.size (Nat.le_refl _))
        have HO6 := Lib.hid (own_only HOr.out hp.only (own_bk_ne HOr.out HAr.out (by decide)))
        clear hp hc10
        go_wp2_with fail
        refine wp_region_held_drew (S := fun w' => Bk w' w.heap.size 101 (sgC n t (.slice A KA C) (.slice Q KB cq))) (by kernel_rfl) (Bk.drew HA6.out) (fun hHeld => ?_)
        refine wpAnyH_take (i := 0) (v := .agg (List.toArray (sgC n t (.slice A KA C) (.slice Q KB cq)))) rfl (by kernel_rfl) (by kernel_rfl) (by kernel_rfl) (fun _ _ _ h => h) (yieldsIf_load_mid (by rfl) _ _ rfl _ _ rfl (sgC n t (.slice A KA C) (.slice Q KB cq)) _ (fun w hSw => (Bk.range (pre := []) (post := []) (by simpa using hSw) rfl)) Try.underlying101 rfl ((sg_info HTO.out))) (by assumption) ?_
        try simp only [Act.put, List.setIfInBounds_toArray, List.set_cons_zero, List.set_cons_succ, List.getElem_toArray, List.getElem_cons_zero]
        refine wpAnyH_take (i := 1) (v := ?_) rfl (by kernel_rfl) (by kernel_rfl) (by kernel_rfl) (fun _ _ _ h => h) (Or.inl ⟨by rfl, ?_⟩) (by assumption) ?_
        rotate_left
        · intro w hSw
          (try dsimp only at hSw)
          go_simp
          try with_reducible rfl
        try simp only [Act.put, List.setIfInBounds_toArray, List.set_cons_zero, List.set_cons_succ, List.getElem_toArray, List.getElem_cons_zero, List.getElem_cons_succ]
        refine wpAnyH_take (i := 4) (v := ?_) rfl (by kernel_rfl) (by kernel_rfl) (by kernel_rfl) (fun _ _ _ h => h) (Or.inl ⟨by rfl, ?_⟩) (by assumption) ?_
        rotate_left
        · intro w hSw
          (try dsimp only at hSw)
          go_simp
          try with_reducible rfl
        try simp only [Act.put, List.setIfInBounds_toArray, List.set_cons_zero, List.set_cons_succ, List.getElem_toArray, List.getElem_cons_zero, List.getElem_cons_succ]
        refine wpAnyH_take (i := 7) (v := ?_) rfl (by kernel_rfl) (by kernel_rfl) (by kernel_rfl) (fun _ _ _ h => h) (Or.inl ⟨by rfl, ?_⟩) (by assumption) ?_
        rotate_left
        · intro w hSw
          (try dsimp only at hSw)
          go_simp
          try with_reducible rfl
        try simp only [Act.put, List.setIfInBounds_toArray, List.set_cons_zero, List.set_cons_succ, List.getElem_toArray, List.getElem_cons_zero, List.getElem_cons_succ]
        refine wpAnyH_take (i := 11) (v := ?_) rfl (by kernel_rfl) (by kernel_rfl) (by kernel_rfl) (fun _ _ _ h => h) (Or.inl ⟨by rfl, ?_⟩) (by assumption) ?_
        rotate_left
        · intro w hSw
          (try dsimp only at hSw)
          go_simp
          try with_reducible rfl
        try simp only [Act.put, List.setIfInBounds_toArray, List.set_cons_zero, List.set_cons_succ, List.getElem_toArray, List.getElem_cons_zero, List.getElem_cons_succ]
        refine wpAnyH_take (i := 2) (v := ?_) rfl (by kernel_rfl) (by kernel_rfl) (by kernel_rfl) (fun _ _ _ h => h) (Or.inl ⟨by rfl, ?_⟩) (by assumption) ?_
        rotate_left
        · intro w hSw
          (try dsimp only at hSw)
          go_simp
          try with_reducible rfl
        try simp only [Act.put, List.setIfInBounds_toArray, List.set_cons_zero, List.set_cons_succ, List.getElem_toArray, List.getElem_cons_zero, List.getElem_cons_succ]
        refine wpAnyH_take (i := 5) (v := ?_) rfl (by kernel_rfl) (by kernel_rfl) (by kernel_rfl) (fun _ _ _ h => h) (Or.inl ⟨by rfl, ?_⟩) (by assumption) ?_
        rotate_left
        · intro w hSw
          (try dsimp only at hSw)
          go_simp
          try with_reducible rfl
        try simp only [Act.put, List.setIfInBounds_toArray, List.set_cons_zero, List.set_cons_succ, List.getElem_toArray, List.getElem_cons_zero, List.getElem_cons_succ]
        refine wpAnyH_take (i := 8) (v := ?_) rfl (by kernel_rfl) (by kernel_rfl) (by kernel_rfl) (fun _ _ _ h => h) (Or.inl ⟨by rfl, ?_⟩) (by assumption) ?_
        rotate_left
        · intro w hSw
          (try dsimp only at hSw)
          go_simp
          try with_reducible rfl
        try simp only [Act.put, List.setIfInBounds_toArray, List.set_cons_zero, List.set_cons_succ, List.getElem_toArray, List.getElem_cons_zero, List.getElem_cons_succ]
        refine wpAnyH_take (i := 3) (v := .agg (List.toArray (dl t))) rfl (by kernel_rfl) (by kernel_rfl) (by kernel_rfl) (fun _ _ _ h => h) (yieldsIf_load_mid (by rfl) _ _ rfl _ _ rfl (dl t) _ (fun w hSw => ((sg_mem HTO.out hSw).r0)) Try.underlying29 rfl (HTD.out)) (by assumption) ?_
        try simp only [Act.put, List.setIfInBounds_toArray, List.set_cons_zero, List.set_cons_succ, List.getElem_toArray, List.getElem_cons_zero, List.getElem_cons_succ]
        refine wpAnyH_take (i := 6) (v := ?_) rfl (by kernel_rfl) (by kernel_rfl) (by kernel_rfl) (fun _ _ _ h => h) (Or.inl ⟨by rfl, ?_⟩) (by assumption) ?_
        rotate_left
        · intro w hSw
          have hcell := (sg_mem HTO.out hSw).c8
          clear hSw
          go_simp
          try with_reducible rfl
        try simp only [Act.put, List.setIfInBounds_toArray, List.set_cons_zero, List.set_cons_succ, List.getElem_toArray, List.getElem_cons_zero, List.getElem_cons_succ]
        refine wpAnyH_take (i := 9) (v := ?_) rfl (by kernel_rfl) (by kernel_rfl) (by kernel_rfl) (fun _ _ _ h => h) (Or.inl ⟨by rfl, ?_⟩) (by assumption) ?_
        rotate_left
        · intro w hSw
          have hcell := (sg_mem HTO.out hSw).c9
          clear hSw
          go_simp
          try with_reducible rfl
        try simp only [Act.put, List.setIfInBounds_toArray, List.set_cons_zero, List.set_cons_succ, List.getElem_toArray, List.getElem_cons_zero, List.getElem_cons_succ]
        refine wpAnyH_take (i := 10) (v := .agg (List.toArray (staC n t (.slice A KA C)))) rfl (by kernel_rfl) (by kernel_rfl) (by kernel_rfl) (fun _ _ _ h => h) (yieldsIf_build (by rfl) _ _ rfl #[(0, .agg (dl t).toArray), (1, .int .i64 n), (2, .slice A KA C)] (by simp [Act.eval]) _ HBS.out) (by assumption) ?_
        try simp only [Act.put, List.setIfInBounds_toArray, List.set_cons_zero, List.set_cons_succ, List.getElem_toArray, List.getElem_cons_zero, List.getElem_cons_succ]
        refine wpAnyH_take (i := 12) (v := .agg (List.toArray (sgC n t (.slice A KA C) (.slice Q KB cq)))) rfl (by kernel_rfl) (by kernel_rfl) (by kernel_rfl) (fun _ _ _ h => h) (yieldsIf_build (by rfl) _ _ rfl #[(0, .agg (staC n t (.slice A KA C)).toArray), (1, .slice Q KB cq)] (by simp [Act.eval]) _ (fun W => build_rsg HTO.out A Q KA C KB cq W)) (by assumption) ?_
        try simp only [Act.put, List.setIfInBounds_toArray, List.set_cons_zero, List.set_cons_succ, List.getElem_toArray, List.getElem_cons_zero, List.getElem_cons_succ]
        refine wpAnyH_ready (rs := [13]) (by kernel_rfl) (by simp) ?_
        refine AllReadyH.cons rfl (fun K hK => ?_) AllReadyH.nil
        rw [if_pos (by rfl)]
        refine wp_store_part _ _ _ rfl (w.heap.size + 1) 0 _ (sgC n t (.slice A KA C) (.slice Q KB cq)) rfl rfl rfl _ ([]) (sgC 0 zeroD (.slice none 0 0) (.slice none 0 0)) ([]) (by simpa using Bk.drew HY6.out) rfl (by rw [sgC_len HTO.out]; rfl) (sg_info HTO.out) sg_one ?_
        intro w7 hp7
        refine hK.out _ _ (hHeld.grown hp7.only (by intro h; injection h with h; omega)) (fun hHeld => ?_)
        clear hK K
        try simp only [Act.put, List.getElem_toArray, List.getElem_cons_zero, List.getElem_cons_succ]
        have HZ7 := Lib.hid ((Bk.drew HZ6.out).grown hp7.only (by intro h; injection h with h; omega))
        have HY7 : Hid (Bk w7 (w.heap.size + 1) 101 (sgC n t (.slice A KA C) (.slice Q KB cq))) := by show Bk _ _ _ _; have := hp7.bk; simpa using this
        have HBB7 := Lib.hid (below_only (HBB6.out.drew) hp7.only HBB6.out.size (Nat.le_succ _))
        have HO7 := Lib.hid (own_only (World.ownsRow.later HO6.out (below_draws w6 _ 1)) hp7.only (own_bk_ne (World.ownsRow.later HO6.out (below_draws w6 _ 1)) (Bk.drew HY6.out) (by decide)))
        refine wpAnyH_ready (rs := [14]) (by kernel_rfl) (by simp) ?_
        refine AllReadyH.cons rfl (fun K hK => ?_) AllReadyH.nil
        rw [if_pos (by rfl)]
        refine wp_store_part _ _ _ rfl (w.heap.size + 2) 0 _ (sgC n t (.slice A KA C) (.slice Q KB cq)) rfl rfl rfl _ ([]) (sgC 0 zeroD (.slice none 0 0) (.slice none 0 0)) ([]) (by simpa using HZ7.out) rfl (by rw [sgC_len HTO.out]; rfl) (rsg_info HTO.out) sg_one ?_
        intro w8 hp8
        refine hK.out _ _ (hHeld.grown hp8.only (by intro h; injection h with h; omega)) (fun hHeld => ?_)
        clear hK K
        try simp only [Act.put, List.getElem_toArray, List.getElem_cons_zero, List.getElem_cons_succ]
        refine wpAnyH_done (by kernel_rfl) ?_ _
        have HY8 := Lib.hid (HY7.out.grown hp8.only (by intro h; injection h with h; omega))
        have HZ8 : Hid (Bk w8 (w.heap.size + 2) 105 (sgC n t (.slice A KA C) (.slice Q KB cq))) := by show Bk _ _ _ _; have := hp8.bk; simpa using this
        have HBB8 := Lib.hid (below_only HBB7.out hp8.only HBB7.out.size (by omega))
        have HO8 := Lib.hid (own_only HO7.out hp8.only (own_bk_ne HO7.out HZ7.out (by decide)))
        clear hHeld hp7 hp8
        go_wp2_with fail
        refine bodyPost_ret (plain_ret HTO.out HY8.out HZ8.out _ rfl rfl) rfl ?_
        exact ⟨Q, cq, rfl, own_base HO8.out HB2.out, HBB8.out⟩
      · have h1 : ¬ ((KB : Int) < M) := by omega
        have h2 : decide ((KB : Int) < M) = false := by simp; omega
        go_wp2_with (with_reducible refine stop_store 90 _ _ rfl ?_)
        refine StopD.go ?_
        rw [sg_preQ] at HAr
        refine wpList_store_part rfl 90 _ _ rfl w.heap.size 10 (.slice Q KB cq) [.slice Q KB cq] rfl rfl rfl 101 (dl t ++ [.int .i64 n, .slice A KA C]) [.slice B M D] [] HAr.out HPQ.out rfl (by kernel_rfl) (by simp [Value.oneCell']) ?_
        intro w6 hp
        have HA6 : Hid (Bk w6 w.heap.size 101 (sgC n t (.slice A KA C) (.slice Q KB cq))) := by show Bk _ _ _ _; rw [sg_preQ]; exact hp.bk
        have HY6 := Lib.hid (HYr.out.grown hp.only (by intro h; injection h with h; omega)); have HZ6 := Lib.hid (HZr.out.grown hp.only (by intro h; injection h with h; omega))
        have HBB6 := Lib.hid (below_only HBBr.out hp.only HBBr.out.size (Nat.le_refl _))
        have HO6 := Lib.hid (own_only HOr.out hp.only (own_bk_ne HOr.out HAr.out (by decide)))
        clear hp hc10
        go_wp2_with fail
        refine wp_region_held_drew (S := fun w' => Bk w' w.heap.size 101 (sgC n t (.slice A KA C) (.slice Q KB cq))) (by kernel_rfl) (Bk.drew HA6.out) (fun hHeld => ?_)
        refine wpAnyH_take (i := 0) (v := .agg (List.toArray (sgC n t (.slice A KA C) (.slice Q KB cq)))) rfl (by kernel_rfl) (by kernel_rfl) (by kernel_rfl) (fun _ _ _ h => h) (yieldsIf_load_mid (by rfl) _ _ rfl _ _ rfl (sgC n t (.slice A KA C) (.slice Q KB cq)) _ (fun w hSw => (Bk.range (pre := []) (post := []) (by simpa using hSw) rfl)) Try.underlying101 rfl ((sg_info HTO.out))) (by assumption) ?_
        try simp only [Act.put, List.setIfInBounds_toArray, List.set_cons_zero, List.set_cons_succ, List.getElem_toArray, List.getElem_cons_zero]
        refine wpAnyH_take (i := 1) (v := ?_) rfl (by kernel_rfl) (by kernel_rfl) (by kernel_rfl) (fun _ _ _ h => h) (Or.inl ⟨by rfl, ?_⟩) (by assumption) ?_
        rotate_left
        · intro w hSw
          (try dsimp only at hSw)
          go_simp
          try with_reducible rfl
        try simp only [Act.put, List.setIfInBounds_toArray, List.set_cons_zero, List.set_cons_succ, List.getElem_toArray, List.getElem_cons_zero, List.getElem_cons_succ]
        refine wpAnyH_take (i := 4) (v := ?_) rfl (by kernel_rfl) (by kernel_rfl) (by kernel_rfl) (fun _ _ _ h => h) (Or.inl ⟨by rfl, ?_⟩) (by assumption) ?_
        rotate_left
        · intro w hSw
          (try dsimp only at hSw)
          go_simp
          try with_reducible rfl
        try simp only [Act.put, List.setIfInBounds_toArray, List.set_cons_zero, List.set_cons_succ, List.getElem_toArray, List.getElem_cons_zero, List.getElem_cons_succ]
        refine wpAnyH_take (i := 7) (v := ?_) rfl (by kernel_rfl) (by kernel_rfl) (by kernel_rfl) (fun _ _ _ h => h) (Or.inl ⟨by rfl, ?_⟩) (by assumption) ?_
        rotate_left
        · intro w hSw
          (try dsimp only at hSw)
          go_simp
          try with_reducible rfl
        try simp only [Act.put, List.setIfInBounds_toArray, List.set_cons_zero, List.set_cons_succ, List.getElem_toArray, List.getElem_cons_zero, List.getElem_cons_succ]
        refine wpAnyH_take (i := 11) (v := ?_) rfl (by kernel_rfl) (by kernel_rfl) (by kernel_rfl) (fun _ _ _ h => h) (Or.inl ⟨by rfl, ?_⟩) (by assumption) ?_
        rotate_left
        · intro w hSw
          (try dsimp only at hSw)
          go_simp
          try with_reducible rfl
        try simp only [Act.put, List.setIfInBounds_toArray, List.set_cons_zero, List.set_cons_succ, List.getElem_toArray, List.getElem_cons_zero, List.getElem_cons_succ]
        refine wpAnyH_take (i := 2) (v := ?_) rfl (by kernel_rfl) (by kernel_rfl) (by kernel_rfl) (fun _ _ _ h => h) (Or.inl ⟨by rfl, ?_⟩) (by assumption) ?_
        rotate_left
        · intro w hSw
          (try dsimp only at hSw)
          go_simp
          try with_reducible rfl
        try simp only [Act.put, List.setIfInBounds_toArray, List.set_cons_zero, List.set_cons_succ, List.getElem_toArray, List.getElem_cons_zero, List.getElem_cons_succ]
        refine wpAnyH_take (i := 5) (v := ?_) rfl (by kernel_rfl) (by kernel_rfl) (by kernel_rfl) (fun _ _ _ h => h) (Or.inl ⟨by rfl, ?_⟩) (by assumption) ?_
        rotate_left
        · intro w hSw
          (try dsimp only at hSw)
          go_simp
          try with_reducible rfl
        try simp only [Act.put, List.setIfInBounds_toArray, List.set_cons_zero, List.set_cons_succ, List.getElem_toArray, List.getElem_cons_zero, List.getElem_cons_succ]
        refine wpAnyH_take (i := 8) (v := ?_) rfl (by kernel_rfl) (by kernel_rfl) (by kernel_rfl) (fun _ _ _ h => h) (Or.inl ⟨by rfl, ?_⟩) (by assumption) ?_
        rotate_left
        · intro w hSw
          (try dsimp only at hSw)
          go_simp
          try with_reducible rfl
        try simp only [Act.put, List.setIfInBounds_toArray, List.set_cons_zero, List.set_cons_succ, List.getElem_toArray, List.getElem_cons_zero, List.getElem_cons_succ]
        refine wpAnyH_take (i := 3) (v := .agg (List.toArray (dl t))) rfl (by kernel_rfl) (by kernel_rfl) (by kernel_rfl) (fun _ _ _ h => h) (yieldsIf_load_mid (by rfl) _ _ rfl _ _ rfl (dl t) _ (fun w hSw => ((sg_mem HTO.out hSw).r0)) Try.underlying29 rfl (HTD.out)) (by assumption) ?_
        try simp only [Act.put, List.setIfInBounds_toArray, List.set_cons_zero, List.set_cons_succ, List.getElem_toArray, List.getElem_cons_zero, List.getElem_cons_succ]
        refine wpAnyH_take (i := 6) (v := ?_) rfl (by kernel_rfl) (by kernel_rfl) (by kernel_rfl) (fun _ _ _ h => h) (Or.inl ⟨by rfl, ?_⟩) (by assumption) ?_
        rotate_left
        · intro w hSw
          have hcell := (sg_mem HTO.out hSw).c8
          clear hSw
          go_simp
          try with_reducible rfl
        try simp only [Act.put, List.setIfInBounds_toArray, List.set_cons_zero, List.set_cons_succ, List.getElem_toArray, List.getElem_cons_zero, List.getElem_cons_succ]
        refine wpAnyH_take (i := 9) (v := ?_) rfl (by kernel_rfl) (by kernel_rfl) (by kernel_rfl) (fun _ _ _ h => h) (Or.inl ⟨by rfl, ?_⟩) (by assumption) ?_
        rotate_left
        · intro w hSw
          have hcell := (sg_mem HTO.out hSw).c9
          clear hSw
          go_simp
          try with_reducible rfl
        try simp only [Act.put, List.setIfInBounds_toArray, List.set_cons_zero, List.set_cons_succ, List.getElem_toArray, List.getElem_cons_zero, List.getElem_cons_succ]
        refine wpAnyH_take (i := 10) (v := .agg (List.toArray (staC n t (.slice A KA C)))) rfl (by kernel_rfl) (by kernel_rfl) (by kernel_rfl) (fun _ _ _ h => h) (yieldsIf_build (by rfl) _ _ rfl #[(0, .agg (dl t).toArray), (1, .int .i64 n), (2, .slice A KA C)] (by simp [Act.eval]) _ HBS.out) (by assumption) ?_
        try simp only [Act.put, List.setIfInBounds_toArray, List.set_cons_zero, List.set_cons_succ, List.getElem_toArray, List.getElem_cons_zero, List.getElem_cons_succ]
        refine wpAnyH_take (i := 12) (v := .agg (List.toArray (sgC n t (.slice A KA C) (.slice Q KB cq)))) rfl (by kernel_rfl) (by kernel_rfl) (by kernel_rfl) (fun _ _ _ h => h) (yieldsIf_build (by rfl) _ _ rfl #[(0, .agg (staC n t (.slice A KA C)).toArray), (1, .slice Q KB cq)] (by simp [Act.eval]) _ (fun W => build_rsg HTO.out A Q KA C KB cq W)) (by assumption) ?_
        try simp only [Act.put, List.setIfInBounds_toArray, List.set_cons_zero, List.set_cons_succ, List.getElem_toArray, List.getElem_cons_zero, List.getElem_cons_succ]
        refine wpAnyH_ready (rs := [13]) (by kernel_rfl) (by simp) ?_
        refine AllReadyH.cons rfl (fun K hK => ?_) AllReadyH.nil
        rw [if_pos (by rfl)]
        refine wp_store_part _ _ _ rfl (w.heap.size + 1) 0 _ (sgC n t (.slice A KA C) (.slice Q KB cq)) rfl rfl rfl _ ([]) (sgC 0 zeroD (.slice none 0 0) (.slice none 0 0)) ([]) (by simpa using Bk.drew HY6.out) rfl (by rw [sgC_len HTO.out]; rfl) (sg_info HTO.out) sg_one ?_
        intro w7 hp7
        refine hK.out _ _ (hHeld.grown hp7.only (by intro h; injection h with h; omega)) (fun hHeld => ?_)
        clear hK K
        try simp only [Act.put, List.getElem_toArray, List.getElem_cons_zero, List.getElem_cons_succ]
        have HZ7 := Lib.hid ((Bk.drew HZ6.out).grown hp7.only (by intro h; injection h with h; omega))
        have HY7 : Hid (Bk w7 (w.heap.size + 1) 101 (sgC n t (.slice A KA C) (.slice Q KB cq))) := by show Bk _ _ _ _; have := hp7.bk; simpa using this
        have HBB7 := Lib.hid (below_only (HBB6.out.drew) hp7.only HBB6.out.size (Nat.le_succ _))
        have HO7 := Lib.hid (own_only (World.ownsRow.later HO6.out (below_draws w6 _ 1)) hp7.only (own_bk_ne (World.ownsRow.later HO6.out (below_draws w6 _ 1)) (Bk.drew HY6.out) (by decide)))
        refine wpAnyH_ready (rs := [14]) (by kernel_rfl) (by simp) ?_
        refine AllReadyH.cons rfl (fun K hK => ?_) AllReadyH.nil
        rw [if_pos (by rfl)]
        refine wp_store_part _ _ _ rfl (w.heap.size + 2) 0 _ (sgC n t (.slice A KA C) (.slice Q KB cq)) rfl rfl rfl _ ([]) (sgC 0 zeroD (.slice none 0 0) (.slice none 0 0)) ([]) (by simpa using HZ7.out) rfl (by rw [sgC_len HTO.out]; rfl) (rsg_info HTO.out) sg_one ?_
        intro w8 hp8
        refine hK.out _ _ (hHeld.grown hp8.only (by intro h; injection h with h; omega)) (fun hHeld => ?_)
        clear hK K
        try simp only [Act.put, List.getElem_toArray, List.getElem_cons_zero, List.getElem_cons_succ]
        refine wpAnyH_done (by kernel_rfl) ?_ _
        have HY8 := Lib.hid (HY7.out.grown hp8.only (by intro h; injection h with h; omega))
        have HZ8 : Hid (Bk w8 (w.heap.size + 2) 105 (sgC n t (.slice A KA C) (.slice Q KB cq))) := by show Bk _ _ _ _; have := hp8.bk; simpa using this
        have HBB8 := Lib.hid (below_only HBB7.out hp8.only HBB7.out.size (by omega))
        have HO8 := Lib.hid (own_only HO7.out hp8.only (own_bk_ne HO7.out HZ7.out (by decide)))
        clear hHeld hp7 hp8
        go_wp2_with fail
        refine bodyPost_ret (plain_ret HTO.out HY8.out HZ8.out _ rfl rfl) rfl ?_
        exact ⟨Q, cq, rfl, own_base HO8.out HB2.out, HBB8.out⟩
end Go.Proofs.Ythibihjblodfmaa
