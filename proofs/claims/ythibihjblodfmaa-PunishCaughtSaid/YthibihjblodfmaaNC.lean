/- What is built, where its guard may say no: the world behind it is a letter. The example of states. The example of states: the walk. -/
import Derived.Test.YthibihjblodfmaaNB
import Derived.Test.YthibihjblodfmaaQ4
import Derived.Test.YthibihjblodfmaaS5
import Derived.Lib.SlBytesConst
/-! What is built, where its guard may say no: the world behind it is a letter. -/
namespace Go.Proofs.Ythibihjblodfmaa
open Go.RowKit Go.Maps

section
variable {P : Program}
theorem wpList_bsliceG {ops : Array Oper} {rest : List Oper} {o : Oper} {a : Act} {w : World} {Q : Exit → Act → World → Prop} (hw : Region.wanted o (yielded ops a.tmps) = true) (t : TypeId) (n : Nat) (parts : Array (Nat × Operand)) (ho : o.op = .buildSlice t n parts) (vals : Array (Nat × Value))
    (hv : (parts.map fun x => (x.1, a.eval x.2)) = vals) (T : TypeId) (cs : List Value)
    (hb : ∀ w : World, (Instr.buildSlice t n vals).run P w = .ok (.slice (some ⟨w.heap.size, 0, none⟩) n n) (w.alloc (.cells cs.toArray T)))
    (h : ∀ q w', w.heap.size = q → Bk w' q T cs → Below w.heap.size w w' → wpList P ops Q rest (a.put o.dst (.slice (some ⟨q, 0, none⟩) n n)) w') : wpList P ops Q (o :: rest) a w :=
  wpList_step fun _ hK => by rw [if_pos hw]; exact wp_bslice t n parts ho vals hv _ _ (hb w) (hK _ _ (h _ _ rfl (Bk.new' w T cs.toArray (by simp)) (below_new w _)))
theorem wp_allocL {o : Oper} {a : Act} {w : World} {K : Act → World → Prop} {Q : Exit → Act → World → Prop} (t : TypeId) (ho : o.op = .alloc t) (v : Value) (w' : World)
    (hb : (execOp a.eval { o with op := .alloc t }).run P w = .ok (.value v) w') (h : K (a.put o.dst v) w') : o.wp P a w K Q := by
  unfold Oper.wp
  rw [← ho] at hb
  rw [hb]
  exact h
theorem wpList_allocG {ops : Array Oper} {rest : List Oper} {o : Oper} {a : Act} {w : World} {Q : Exit → Act → World → Prop} (hw : Region.wanted o (yielded ops a.tmps) = true) (t : TypeId) (ho : o.op = .alloc t) (T : TypeId) (cs : List Value)
    (hb : ∀ w : World, (execOp a.eval { o with op := .alloc t }).run P w = .ok (.value (.pointer (some ⟨w.heap.size, 0, none⟩))) (w.alloc (.cells cs.toArray T)))
    (h : ∀ q w', w.heap.size = q → Bk w' q T cs → Below w.heap.size w w' → wpList P ops Q rest (a.put o.dst (.pointer (some ⟨q, 0, none⟩))) w') : wpList P ops Q (o :: rest) a w :=
  wpList_step fun _ hK => by rw [if_pos hw]; exact wp_allocL t ho _ _ (hb w) (hK _ _ (h _ _ rfl (Bk.new' w T cs.toArray (by simp)) (below_new w _)))
theorem wpList_buildG {ops : Array Oper} {rest : List Oper} {o : Oper} {a : Act} {w : World} {Q : Exit → Act → World → Prop} (hw : Region.wanted o (yielded ops a.tmps) = true) (t : TypeId) (parts : Array (Nat × Operand)) (ho : o.op = .build t parts) (vals : Array (Nat × Value))
    (hv : (parts.map fun x => (x.1, a.eval x.2)) = vals) (v : Value) (hb : (Instr.build t vals).run P w = .ok v w) (h : wpList P ops Q rest (a.put o.dst v) w) : wpList P ops Q (o :: rest) a w :=
  wpList_step fun _ hK => by rw [if_pos hw]; exact wp_build t parts ho vals hv v hb (hK _ _ h)
theorem wpList_load_bkG {ops : Array Oper} {rest : List Oper} {o : Oper} {a : Act} {w : World} {Q : Exit → Act → World → Prop} (hw : Region.wanted o (yielded ops a.tmps) = true) (ty : TypeId) (x : Operand) (ho : o.op = .load ty x)
    (g : Nat) (hx : a.eval x = .pointer (some ⟨g, 0, none⟩)) (cs : List Value) (t : TypeId) (hb : Bk w g t cs) (d : TypeDesc) (hu : P.underlying ty = some d) (hd : d.isRow = true) (hi : (P.info? ty).map (·.size) = some cs.length)
    (h : wpList P ops Q rest (a.put o.dst (.agg cs.toArray)) w) : wpList P ops Q (o :: rest) a w :=
  wpList_load_midG hw ty x ho g 0 hx cs d (Bk.range (pre := []) (post := []) (by simpa using hb) rfl) hu hd hi h
end
/-! Blocks as slices. -/
theorem Bk.sl1 {w : World} {g n : Nat} {t : TypeId} {xs : List Value} (h : Bk w g t xs) (hn : xs.length = n) (hl : n ≤ 1000000) : Sl w w.heap.size 1 (some ⟨g, 0, none⟩) n xs := h.sl (by omega) (by omega) (fun _ _ h => h)
theorem Bk.sl8 {w : World} {g n : Nat} {t : TypeId} {ls : List (List Int)} (h : Bk w g t (cellsD ls)) (ho : DsOk ls) (hn : ls.length = n) (hl : n ≤ 1000000) : Sl w w.heap.size 8 (some ⟨g, 0, none⟩) n (cellsD ls) := h.sl (by rw [cellsD_len ho, hn]) (by omega) (fun _ _ h => h)
def zSt : List Value := [.int .u8 0, .int .u8 0, .int .u8 0, .int .u8 0, .int .u8 0, .int .u8 0, .int .u8 0, .int .u8 0, .int .i64 0, .slice none 0 0]
end Go.Proofs.Ythibihjblodfmaa

/-! The example of states. -/
namespace Go.Proofs.Ythibihjblodfmaa
open Go.RowKit Go.Maps

def tD1 : List Int := [1, 0, 0, 0, 0, 0, 0, 0]
def tD2 : List Int := [2, 0, 0, 0, 0, 0, 0, 0]
def tD9 : List Int := [9, 0, 0, 0, 0, 0, 0, 0]
def tMsg : List Int := ofI (stB tD9 3 [112])
theorem tD1_ok : DgOk tD1 := ⟨rfl, fun b hb => by simp [tD1] at hb; omega⟩
theorem tD2_ok : DgOk tD2 := ⟨rfl, fun b hb => by simp [tD2] at hb; omega⟩
theorem tD9_ok : DgOk tD9 := ⟨rfl, fun b hb => by simp [tD9] at hb; omega⟩
theorem tMsg_ok : DgOk tMsg := ofI_ok _
theorem tMsg_ne : eqL tMsg zeroD = false := by decide +kernel
theorem t_all (p : Pc) (q : Pc) (hp : p.bs = [0, 0]) (hq : q.bs = []) : allB [(tD1, tMsg)] tMsg [tD1, tD2] [p, q] [false, true] = true ∧ allB [(tD1, tMsg)] tMsg [tD1, tD2] [p, q] [] = false ∧ cntB [(tD1, tMsg)] tMsg [tD1, tD2] [p, q] = 1 := by
  obtain ⟨m, hm⟩ : ∃ m, tMsg = m := ⟨_, rfl⟩
  rw [hm]
  have v1 : verB [(tD1, m)] (tD1, m) [0, 0] = true := by simp [verB, sigB]
  have v2 : verB [(tD1, m)] (tD2, m) [] = false := by simp [verB, sigB]
  have b0 : ∀ fs, fs.getD 0 false = false → badB [(tD1, m)] m [tD1, tD2] [p, q] fs 0 = false := fun fs h => by
    unfold badB; rw [h]; simp [hp, v1]
  have b1 : ∀ fs, fs.getD 1 false = false → badB [(tD1, m)] m [tD1, tD2] [p, q] fs 1 = true := fun fs h => by
    unfold badB; rw [h]; simp [hq, v2]
  have b2 : ∀ fs, fs.getD 1 false = true → badB [(tD1, m)] m [tD1, tD2] [p, q] fs 1 = false := fun fs h => by
    unfold badB; rw [h]; rfl
  refine ⟨?_, ?_, ?_⟩
  · simp [allB, missB, List.range, List.range.loop, b0 [false, true] rfl, b2 [false, true] rfl]
  · simp [allB, missB, List.range, List.range.loop, b0 [] rfl, b1 [] rfl]
  · simp [cntB, hp, hq, v1, v2]
end Go.Proofs.Ythibihjblodfmaa

/-! The example of states: the walk. -/
namespace Go.Proofs.Ythibihjblodfmaa
open Go.RowKit Go.Maps

theorem nil_wr (X : Array Value) (f : Nat) (w : World) : (nilAhead (f + 1) 151 (.agg X) "Sign").run Try.prog w = .ok (some false) w := by kernel_rfl
theorem meth_wr (X : Array Value) (f : Nat) (w : World) : (method (f + 1) 151 (.agg X) "Sign").run Try.prog w = .ok (165, .agg X) w := by kernel_rfl
theorem stop_bs {P : Program} {ops : Array Oper} {rest : List Oper} {o : Oper} {a : Act} {w : World} {Q : Exit → Act → World → Prop} (t : TypeId) (n : Nat) (parts : Array (Nat × Operand)) (_ho : o.op = .buildSlice t n parts) (h : StopD (wpList P ops Q (o :: rest) a w)) : wpList P ops Q (o :: rest) a w := h
/-- A block of a constant string's bytes: it bears the run-time's mark behind its last cell. -/
def BkM (w : World) (g : Nat) (t : TypeId) (xs : List Value) : Prop := w.heap[g]? = some (.cells xs.toArray t (xs.length, xs.length + 1))
theorem BkM.lt {w : World} {g : Nat} {t : TypeId} {xs : List Value} (h : BkM w g t xs) : g < w.heap.size := by
  rcases Nat.lt_or_ge g w.heap.size with hlt | hge
  · exact hlt
  · unfold BkM at h; rw [Array.getElem?_eq_none hge] at h; cases h
theorem BkM.later {w w' : World} {g : Nat} {t : TypeId} {xs : List Value} (h : BkM w g t xs) (hb : Below w.heap.size w w') : BkM w' g t xs := (hb.block g h.lt).trans h
theorem BkM.keeps {w w' : World} {g : Nat} {t : TypeId} {xs : List Value} (h : BkM w g t xs) (hk : Keeps w w') (h1 : t ≠ 149) (h2 : t ≠ 154) : BkM w' g t xs := (hk.blk g _ t _ h h1 h2).trans h
theorem BkM.cell {w : World} {g : Nat} {t : TypeId} {xs : List Value} (h : BkM w g t xs) (i : Nat) : w.cell? ⟨g, i, none⟩ = xs[i]? := (cell_of_row w g i _ t _ h).trans (by simp)
theorem BkM.sl {w : World} {g n : Nat} {t : TypeId} {xs : List Value} (h : BkM w g t xs) (hn : xs.length = n) (hl : n ≤ 1000000) : Sl w w.heap.size 1 (some ⟨g, 0, none⟩) n xs :=
  ⟨by omega, by omega, fun _ => ⟨_, rfl, h.lt, fun j u hu => by rw [add_plain, Nat.zero_add, h.cell]; exact hu⟩⟩
theorem BkM.new (w : World) (t : TypeId) (cs : Array Value) {xs : List Value} (h : cs.toList = xs) (fr : Nat × Nat) (hf : fr = (xs.length, xs.length + 1)) : BkM (w.alloc (.cells cs t fr)) w.heap.size t xs := by
  subst h; subst hf; unfold BkM; simpa using heap_alloc_new w (.cells cs t (cs.toList.length, cs.toList.length + 1))
theorem bs_two {x y : List Int} (hx : DgOk x) (hy : DgOk y) (w : World) : (Instr.buildSlice 89 2 #[(0, .agg (dl x).toArray), (1, .agg (dl y).toArray)]).run Try.prog w = .ok (.slice (some ⟨w.heap.size, 0, none⟩) 2 2) (w.alloc (.cells (cellsD [x, y]).toArray 29)) := by
  obtain ⟨x0, x1, x2, x3, x4, x5, x6, x7, rfl⟩ := list8 x hx.len
  obtain ⟨y0, y1, y2, y3, y4, y5, y6, y7, rfl⟩ := list8 y hy.len
  kernel_rfl
theorem bs_pcs (A B : Option Addr) (n m c d : Nat) (xs ys : List Int) (w : World) : (Instr.buildSlice 90 2 #[(0, .slice A n c), (1, .slice B m d)]).run Try.prog w = .ok (.slice (some ⟨w.heap.size, 0, none⟩) 2 2) (w.alloc (.cells ([(⟨A, n, c, xs⟩ : Pc), ⟨B, m, d, ys⟩].map Pc.v).toArray 23)) := by kernel_rfl
theorem bs_112 (w : World) : (Instr.buildSlice 23 1 #[(0, .int .u8 112)]).run Try.prog w = .ok (.slice (some ⟨w.heap.size, 0, none⟩) 1 1) (w.alloc (.cells (([112] : List Int).map (.int .u8)).toArray 5)) := by kernel_rfl
theorem bs_ft (w : World) : (Instr.buildSlice 77 2 #[(0, .bool false), (1, .bool true)]).run Try.prog w = .ok (.slice (some ⟨w.heap.size, 0, none⟩) 2 2) (w.alloc (.cells (([false, true] : List Bool).map .bool).toArray 4)) := by kernel_rfl
theorem build_sta {n : Int} {t : List Int} (ht : DgOk t) (A : Option Addr) (N C : Nat) (w : World) : (Instr.build 31 #[(0, .agg (dl t).toArray), (1, .int .i64 n), (2, .slice A N C)]).run Try.prog w = .ok (.agg (staC n t (.slice A N C)).toArray) w := by
  obtain ⟨x0, x1, x2, x3, x4, x5, x6, x7, rfl⟩ := list8 t ht.len
  kernel_rfl
theorem build_d1 (w : World) : (Instr.build 29 #[(0, .int .u8 1)]).run Try.prog w = .ok (.agg (dl tD1).toArray) w := by kernel_rfl
theorem build_d2 (w : World) : (Instr.build 29 #[(0, .int .u8 2)]).run Try.prog w = .ok (.agg (dl tD2).toArray) w := by kernel_rfl
theorem build_d9 (w : World) : (Instr.build 29 #[(0, .int .u8 9)]).run Try.prog w = .ok (.agg (dl tD9).toArray) w := by kernel_rfl
theorem build_d0 (w : World) : (Instr.build 29 #[]).run Try.prog w = .ok (.agg (dl zeroD).toArray) w := by kernel_rfl
set_option maxRecDepth 20000 in
set_option maxHeartbeats 4000000 in
theorem stold_any (w : World) : Calls Try.prog 45 #[] w fun e w' => e = .returned (.bool true) ∧ Below w.heap.size w w' := by
  obtain ⟨m, hm⟩ : ∃ m, tMsg = m := ⟨_, rfl⟩
  have HMO : Hid (DgOk m) := by show DgOk m; rw [← hm]; exact tMsg_ok
  have heq := fun W => dg_eq_run m zeroD HMO.out zero_ok W
  rw [show eqL m zeroD = false by rw [← hm]; exact tMsg_ne] at heq
  have HALL := Lib.hid (fun p q hp hq => t_all p q hp hq)
  rw [hm] at HALL
  have HDIG : Hid (∀ (w' : World) (q2 : Nat), Sl w' w'.heap.size 1 (some ⟨q2, 0, none⟩) 1 (([112] : List Int).map (.int .u8)) → Calls Try.prog 46 #[.agg (staC 3 tD9 (.slice (some ⟨q2, 0, none⟩) 1 1)).toArray] w' fun e w'' => e = .returned (.agg (dl m).toArray) ∧ Below w'.heap.size w' w'') := fun w' q2 h => by
    have := sdigest_any w' 3 tD9 tD9_ok (some ⟨q2, 0, none⟩) 1 1 [112] h (fun b hb => by simp at hb; omega) (by omega) (by show _ ≤ _; omega) (by show _ < _; omega)
    rwa [show ofI (stB tD9 3 [112]) = m from hm] at this
  have HMD := Lib.hid (hdg_size m HMO.out)
  have HD1 := Lib.hid (hdg_size tD1 tD1_ok)
  have hconv := fun (w : World) (C : Array Value) (n c : Nat) => Lib.run_convert_bytes_const (P := Try.prog) w 23 5 C n c Try.underlying23 Try.underlying5
  clear hm
  go_enter Try.func45, Try.ntmps45
  go_wp2_with fail
  refine (newBook_any _).mono ?_
  rintro e w1 ⟨⟨g, rfl, hbk⟩, hbn⟩
  have HBK1 := Lib.hid hbk; have HBB1 := Lib.hid hbn
  clear hbk hbn
  go_wp2_with (first
    | ((with_reducible refine wpList_build rfl 29 _ rfl #[(0, .int .u8 1)] ?_ _ (build_d1 _) ?_); focus (simp [Act.eval, Act.put]; done))
    | ((with_reducible refine wpList_build rfl 29 _ rfl #[(0, .int .u8 2)] ?_ _ (build_d2 _) ?_); focus (simp [Act.eval, Act.put]; done))
    | (with_reducible refine stop_bs 89 2 _ rfl ?_))
  refine StopD.go ?_
  (with_reducible refine wpList_bsliceG ?_ 89 2 _ rfl #[(0, .agg (dl tD1).toArray), (1, .agg (dl tD2).toArray)] ?_ 29 (cellsD [tD1, tD2]) (bs_two tD1_ok tD2_ok) ?_)
  · rfl
  · simp [Act.eval]
  intro q1 w2 _ hky hbn
  have HKY2 := Lib.hid hky
  clear hky
  try have HGO2 := Lib.hid (HGO1.out.later hbn)
  try have HPO2 := Lib.hid (HPO1.out.later hbn)
  have HBB2 := Lib.hid (below_then HBB1.out hbn)
  try have HBK2 := Lib.hid (HBK1.out.later hbn)
  try have HKY2 := Lib.hid (HKY1.out.later hbn)
  try have HPS2 := Lib.hid (HPS1.out.later hbn)
  try have HST2 := Lib.hid (HST1.out.later hbn)
  try have HSG2 := Lib.hid (HSG1.out.later hbn)
  try have HLL2 := Lib.hid (HLL1.out.later hbn)
  clear hbn
  obtain ⟨q2, hq2⟩ : ∃ q, w2.heap.size = q := ⟨_, rfl⟩
  have HQ2 := Lib.hid hq2
  obtain ⟨S, hS⟩ : ∃ S, staC 3 tD9 (.slice (some ⟨q2, 0, none⟩) 1 1) = S := ⟨_, rfl⟩
  have HS := Lib.hid hS
  have hS10 : Hid (S.length = 10) := by show _ = _; rw [← hS, staC_len tD9_ok]
  have hS1 : Hid (∀ v ∈ S, v.oneCell' = true) := by rw [← hS]; exact st_one
  have HSZ : Hid ((Try.prog.info? 31).map (·.size) = some S.length) := by show _ = _; rw [hS10.out]; exact st_size
  have HBS := Lib.hid (fun W => build_sta (n := 3) tD9_ok (some ⟨q2, 0, none⟩) 1 1 W)
  rw [hS] at HBS
  have HDG : Hid (∀ w' : World, BkM w' q2 5 (([112] : List Int).map (.int .u8)) → Calls Try.prog 46 #[.agg S.toArray] w' fun e w'' => e = .returned (.agg (dl m).toArray) ∧ Below w'.heap.size w' w'') := fun w' h => by
    have := HDIG.out w' q2 (h.sl rfl (by omega)); rwa [hS] at this
  rw [← hq2] at HBS
  clear hS hq2 HDIG
  go_wp2_with (first
    | ((with_reducible refine wpList_build rfl 29 _ rfl #[(0, .int .u8 9)] ?_ _ (build_d9 _) ?_); focus (simp [Act.eval]; done))
    | ((with_reducible refine wpList_build rfl 31 _ rfl #[(0, .agg (dl tD9).toArray), (1, .int .i64 3), (2, .slice (some ⟨w2.heap.size, 0, none⟩) 1 1)] ?_ _ (HBS.out _) ?_); focus (simp [Act.eval]; done))
    | (with_reducible refine stop_store 31 _ _ rfl ?_))
  refine StopD.go ?_
  obtain ⟨w3, hw3⟩ : ∃ w3, w2.alloc (.cells #[.int .u8 112] 5 (1, 2)) = w3 := ⟨_, rfl⟩
  have hbn : Below w2.heap.size w2 w3 := hw3 ▸ below_new w2 _
  have HPS3 : Hid (BkM w3 q2 5 (([112] : List Int).map (.int .u8))) := by
    rw [← hw3, ← HQ2.out]
    exact BkM.new _ _ _ rfl _ rfl
  rw [hw3]
  have hz3 : w3.heap.size = w2.heap.size + 1 := by rw [← hw3]; simp
  clear hw3
  try have HGO3 := Lib.hid (HGO2.out.later hbn)
  try have HPO3 := Lib.hid (HPO2.out.later hbn)
  have HBB3 := Lib.hid (below_then HBB2.out hbn)
  try have HBK3 := Lib.hid (HBK2.out.later hbn)
  try have HKY3 := Lib.hid (HKY2.out.later hbn)
  try have HPS3 := Lib.hid (HPS2.out.later hbn)
  try have HST3 := Lib.hid (HST2.out.later hbn)
  try have HSG3 := Lib.hid (HSG2.out.later hbn)
  try have HLL3 := Lib.hid (HLL2.out.later hbn)
  clear hbn
  obtain ⟨s, hs⟩ : ∃ s, w3.heap.size = s := ⟨_, rfl⟩
  have hbn : Below w3.heap.size w3 (w3.alloc (.cells #[.int .u8 0, .int .u8 0, .int .u8 0, .int .u8 0, .int .u8 0, .int .u8 0, .int .u8 0, .int .u8 0, .int .i64 0, .slice none 0 0] 31)) := below_new w3 _
  have kt : Bk (w3.alloc (.cells #[.int .u8 0, .int .u8 0, .int .u8 0, .int .u8 0, .int .u8 0, .int .u8 0, .int .u8 0, .int .u8 0, .int .i64 0, .slice none 0 0] 31)) s 31 ([] ++ (zSt ++ [])) := by rw [← hs]; exact Bk.new' w3 _ #[.int .u8 0, .int .u8 0, .int .u8 0, .int .u8 0, .int .u8 0, .int .u8 0, .int .u8 0, .int .u8 0, .int .i64 0, .slice none 0 0] rfl
  rw [← hz3, hs]
  refine wpList_store_part rfl 31 _ _ rfl s 0 (.agg S.toArray) S rfl rfl rfl 31 [] _ [] kt rfl (by rw [hS10.out]; rfl) HSZ.out hS1.out ?_
  intro w4 hp
  have hbn : Below w3.heap.size w3 w4 := hbn.grown hp.only hbn.size (fun q hq => by injection hq with hq; omega)
  have HST4 : Hid (Bk w4 s 31 S) := by show Bk _ _ _ _; have := hp.bk; simpa using this
  clear hp kt hs hz3
  try have HGO4 := Lib.hid (HGO3.out.later hbn)
  try have HPO4 := Lib.hid (HPO3.out.later hbn)
  have HBB4 := Lib.hid (below_then HBB3.out hbn)
  try have HBK4 := Lib.hid (HBK3.out.later hbn)
  try have HKY4 := Lib.hid (HKY3.out.later hbn)
  try have HPS4 := Lib.hid (HPS3.out.later hbn)
  try have HST4 := Lib.hid (HST3.out.later hbn)
  try have HSG4 := Lib.hid (HSG3.out.later hbn)
  try have HLL4 := Lib.hid (HLL3.out.later hbn)
  clear hbn
  go_wp2_with fail
  refine wp_region_held_drew (S := fun w' => Bk w' q1 29 (cellsD [tD1, tD2]) ∧ Bk w' s 31 S) (by kernel_rfl) ⟨Bk.drew HKY4.out, Bk.drew HST4.out⟩ (fun hHeld => ?_)
  refine wpAnyH_take (i := 0) (v := ?_) rfl (by kernel_rfl) (by kernel_rfl) (by kernel_rfl) (fun _ _ _ h => h) (Or.inl ⟨by rfl, ?_⟩) (by assumption) ?_
  rotate_left
  · intro w hSw
    (try dsimp only at hSw)
    go_simp
    try with_reducible rfl
  try simp only [Act.put, List.setIfInBounds_toArray, List.set_cons_zero, List.set_cons_succ, List.getElem_toArray, List.getElem_cons_zero]
  refine wpAnyH_take (i := 1) (v := ?_) rfl (by kernel_rfl) (by kernel_rfl) (by kernel_rfl) (fun _ _ _ h => h) (Or.inl ⟨by rfl, ?_⟩) (by assumption) ?_
  rotate_left
  · intro w hSw
    (try dsimp only at hSw)
    go_simp
    try with_reducible rfl
  try simp only [Act.put, List.setIfInBounds_toArray, List.set_cons_zero, List.set_cons_succ, List.getElem_toArray, List.getElem_cons_zero, List.getElem_cons_succ]
  refine wpAnyH_take (i := 2) (v := ?_) rfl (by kernel_rfl) (by kernel_rfl) (by kernel_rfl) (fun _ _ _ h => h) (Or.inl ⟨by rfl, ?_⟩) (by assumption) ?_
  rotate_left
  · intro w hSw
    (try dsimp only at hSw)
    go_simp
    try with_reducible rfl
  try simp only [Act.put, List.setIfInBounds_toArray, List.set_cons_zero, List.set_cons_succ, List.getElem_toArray, List.getElem_cons_zero, List.getElem_cons_succ]
  refine wpAnyH_take (i := 3) (v := .agg (List.toArray (dl tD1))) rfl (by kernel_rfl) (by kernel_rfl) (by kernel_rfl) (fun _ _ _ h => h) (yieldsIf_load_mid (by rfl) _ _ rfl _ _ rfl (dl tD1) _ (fun w hSw => (Bk.range (pre := []) (post := dl tD2) (by simpa [cellsD, dl] using hSw.1) rfl)) Try.underlying29 rfl (HD1.out)) (by assumption) ?_
  try simp only [Act.put, List.setIfInBounds_toArray, List.set_cons_zero, List.set_cons_succ, List.getElem_toArray, List.getElem_cons_zero, List.getElem_cons_succ]
  refine wpAnyH_take (i := 5) (v := .agg (List.toArray (S))) rfl (by kernel_rfl) (by kernel_rfl) (by kernel_rfl) (fun _ _ _ h => h) (yieldsIf_load_mid (by rfl) _ _ rfl _ _ rfl (S) _ (fun w hSw => (Bk.range (pre := []) (post := []) (by simpa using hSw.2) rfl)) Try.underlying31 rfl (HSZ.out)) (by assumption) ?_
  try simp only [Act.put, List.setIfInBounds_toArray, List.set_cons_zero, List.set_cons_succ, List.getElem_toArray, List.getElem_cons_zero, List.getElem_cons_succ]
  refine wpAnyH_ready (rs := [4]) (by kernel_rfl) (by simp) ?_
  refine AllReadyH.cons rfl (fun K hK => ?_) AllReadyH.nil
  go_simp
  (go_at_call 26; refine (signer_any w4.drew g tD1 tD1_ok).mono ?_; rintro e w5 ⟨rfl, hbn⟩; have hbn := (below_draws w4 w4.heap.size 1).trans hbn; have HKY5 := Lib.hid (HKY4.out.later hbn); have HST5 := Lib.hid (HST4.out.later hbn); have HPS5 := Lib.hid (HPS4.out.later hbn); have HBK5 := Lib.hid (HBK4.out.later hbn); have HBB5 := Lib.hid (below_then HBB4.out hbn); clear hbn)
  refine hK.out _ _ (⟨HKY5.out, HST5.out⟩) (fun hHeld => ?_)
  clear hK K
  try simp only [Act.put, List.setIfInBounds_toArray, List.set_cons_zero, List.set_cons_succ, List.getElem_toArray, List.getElem_cons_zero, List.getElem_cons_succ]
  refine wpAnyH_take (i := 7) (v := ?_) rfl (by kernel_rfl) (by kernel_rfl) (by kernel_rfl) (fun _ _ _ h => h) (Or.inl ⟨by rfl, ?_⟩) (by assumption) ?_
  rotate_left
  · intro w hSw
    (try dsimp only at hSw)
    go_simp
    try with_reducible rfl
  try simp only [Act.put, List.setIfInBounds_toArray, List.set_cons_zero, List.set_cons_succ, List.getElem_toArray, List.getElem_cons_zero, List.getElem_cons_succ]
  refine wpAnyH_take (i := 8) (v := ?_) rfl (by kernel_rfl) (by kernel_rfl) (by kernel_rfl) (fun _ _ _ h => h) (Or.inl ⟨by rfl, ?_⟩) (by assumption) ?_
  rotate_left
  · intro w hSw
    have hcell := nil_wr (wrC g tD1).toArray
    clear hSw
    go_simp
    try with_reducible rfl
  try simp only [Act.put, List.setIfInBounds_toArray, List.set_cons_zero, List.set_cons_succ, List.getElem_toArray, List.getElem_cons_zero, List.getElem_cons_succ]
  refine wpAnyH_take (i := 9) (v := ?_) rfl (by kernel_rfl) (by kernel_rfl) (by kernel_rfl) (fun _ _ _ h => h) (Or.inl ⟨by rfl, ?_⟩) (by assumption) ?_
  rotate_left
  · intro w hSw
    (try dsimp only at hSw)
    go_simp
    try with_reducible rfl
  try simp only [Act.put, List.setIfInBounds_toArray, List.set_cons_zero, List.set_cons_succ, List.getElem_toArray, List.getElem_cons_zero, List.getElem_cons_succ]
  refine wpAnyH_ready (rs := [6]) (by kernel_rfl) (by simp) ?_
  refine AllReadyH.cons rfl (fun K hK => ?_) AllReadyH.nil
  go_simp
  (go_at_call 46; refine (HDG.out w5 HPS5.out).mono ?_; rintro e w6 ⟨rfl, hbn⟩; have HKY6 := Lib.hid (HKY5.out.later hbn); have HST6 := Lib.hid (HST5.out.later hbn); have HPS6 := Lib.hid (HPS5.out.later hbn); have HBK6 := Lib.hid (HBK5.out.later hbn); have HBB6 := Lib.hid (below_then HBB5.out hbn); clear hbn)
  refine hK.out _ _ (⟨HKY6.out, HST6.out⟩) (fun hHeld => ?_)
  clear hK K
  try simp only [Act.put, List.setIfInBounds_toArray, List.set_cons_zero, List.set_cons_succ, List.getElem_toArray, List.getElem_cons_zero, List.getElem_cons_succ]
  have hmt := meth_wr (wrC g tD1).toArray
  refine wpAnyH_ready (rs := [10]) (by kernel_rfl) (by simp) ?_
  refine AllReadyH.cons rfl (fun K hK => ?_) AllReadyH.nil
  go_simp
  (refine (wsign_any w6 w.heap.size g [] HBK6.out tD1 m tD1_ok HMO.out (by simp) HBB6.out.size).mono ?_; rintro e w7 ⟨⟨A7, c7, rfl, hown⟩, hbk7, hb7, hk7⟩; have HKY7 := Lib.hid (HKY6.out.keeps hk7 (by decide) (by decide)); have HST7 := Lib.hid (HST6.out.keeps hk7 (by decide) (by decide)); have HPS7 := Lib.hid (HPS6.out.keeps hk7 (by decide) (by decide)); have HBK7 := Lib.hid hbk7; have HBB7 := Lib.hid (HBB6.out.trans hb7); have HSG7 := Lib.hid (Sl.of_own hown); clear hown hbk7 hb7 hk7 hmt)
  refine hK.out _ _ (⟨HKY7.out, HST7.out⟩) (fun hHeld => ?_)
  clear hK K
  try simp only [Act.put, List.setIfInBounds_toArray, List.set_cons_zero, List.set_cons_succ, List.getElem_toArray, List.getElem_cons_zero, List.getElem_cons_succ]
  refine wpAnyH_take (i := 11) (v := ?_) rfl (by kernel_rfl) (by kernel_rfl) (by kernel_rfl) (fun _ _ _ h => h) (Or.inl ⟨by rfl, ?_⟩) (by assumption) ?_
  rotate_left
  · intro w hSw
    (try dsimp only at hSw)
    go_simp
    try with_reducible rfl
  try simp only [Act.put, List.setIfInBounds_toArray, List.set_cons_zero, List.set_cons_succ, List.getElem_toArray, List.getElem_cons_zero, List.getElem_cons_succ]
  refine wpAnyH_take (i := 12) (v := ?_) rfl (by kernel_rfl) (by kernel_rfl) (by kernel_rfl) (fun _ _ _ h => h) (Or.inl ⟨by rfl, ?_⟩) (by assumption) ?_
  rotate_left
  · intro w hSw
    (try dsimp only at hSw)
    go_simp
    try with_reducible rfl
  try simp only [Act.put, List.setIfInBounds_toArray, List.set_cons_zero, List.set_cons_succ, List.getElem_toArray, List.getElem_cons_zero, List.getElem_cons_succ]
  refine wpAnyH_take (i := 13) (v := ?_) rfl (by kernel_rfl) (by kernel_rfl) (by kernel_rfl) (fun _ _ _ h => h) (Or.inl ⟨by rfl, ?_⟩) (by assumption) ?_
  rotate_left
  · intro w hSw
    (try dsimp only at hSw)
    go_simp
    try with_reducible rfl
  try simp only [Act.put, List.setIfInBounds_toArray, List.set_cons_zero, List.set_cons_succ, List.getElem_toArray, List.getElem_cons_zero, List.getElem_cons_succ]
  refine wpAnyH_take (i := 14) (v := ?_) rfl (by kernel_rfl) (by kernel_rfl) (by kernel_rfl) (fun _ _ _ h => h) (Or.inl ⟨by rfl, ?_⟩) (by assumption) ?_
  rotate_left
  · intro w hSw
    (try dsimp only at hSw)
    go_simp
    try with_reducible rfl
  try simp only [Act.put, List.setIfInBounds_toArray, List.set_cons_zero, List.set_cons_succ, List.getElem_toArray, List.getElem_cons_zero, List.getElem_cons_succ]
  refine wpAnyH_take (i := 15) (v := ?_) rfl (by kernel_rfl) (by kernel_rfl) (by kernel_rfl) (fun _ _ _ h => h) (Or.inl ⟨by rfl, ?_⟩) (by assumption) ?_
  rotate_left
  · intro w hSw
    (try dsimp only at hSw)
    go_simp
    try with_reducible rfl
  try simp only [Act.put, List.setIfInBounds_toArray, List.set_cons_zero, List.set_cons_succ, List.getElem_toArray, List.getElem_cons_zero, List.getElem_cons_succ]
  refine wpAnyH_done (by kernel_rfl) ?_ _
  clear hHeld
  have HE1 : Hid (bookS [] (tD1, m) = [(tD1, m)]) := by show _ = _; simp [bookS]
  rw [HE1.out] at HBK7
  have hix : sigB (([] : List Ent).idxOf (tD1, m)) = [0, 0] := by simp [sigB]
  rw [hix] at HSG7
  clear hix HE1
  go_wp2_with (with_reducible refine stop_bs 90 2 _ rfl ?_)
  refine StopD.go ?_
  (with_reducible refine wpList_bsliceG ?_ 90 2 _ rfl #[(0, .slice A7 2 c7), (1, .slice none 0 0)] ?_ 23 ([(⟨A7, 2, c7, [0, 0]⟩ : Pc), ⟨none, 0, 0, []⟩].map Pc.v) (bs_pcs A7 none 2 0 c7 0 [0, 0] []) ?_)
  · rfl
  · simp [Act.eval]
  intro q8 w8 _ hky hbn
  have HLL8 := Lib.hid hky
  clear hky
  try have HGO8 := Lib.hid (HGO7.out.later hbn)
  try have HPO8 := Lib.hid (HPO7.out.later hbn)
  have HBB8 := Lib.hid (below_then HBB7.out hbn)
  try have HBK8 := Lib.hid (HBK7.out.later hbn)
  try have HKY8 := Lib.hid (HKY7.out.later hbn)
  try have HPS8 := Lib.hid (HPS7.out.later hbn)
  try have HST8 := Lib.hid (HST7.out.later hbn)
  try have HSG8 := Lib.hid (HSG7.out.later hbn)
  try have HLL8 := Lib.hid (HLL7.out.later hbn)
  clear hbn
  obtain ⟨ps, hps⟩ : ∃ ps : List Pc, [(⟨A7, 2, c7, [0, 0]⟩ : Pc), ⟨none, 0, 0, []⟩] = ps := ⟨_, rfl⟩
  have HPL : Hid (ps.length = 2) := by rw [← hps]; rfl
  have HPB : Hid (PcsBy ps) := by
    rw [← hps]; intro p hp
    rcases List.mem_cons.1 hp with rfl | hp
    · intro b hb; simp at hb; omega
    · rcases List.mem_cons.1 hp with rfl | hp
      · intro b hb; simp at hb
      · simp at hp
  have HPN : Hid (∀ p ∈ ps, p.n ≤ 4294967296) := by
    rw [← hps]; intro p hp
    rcases List.mem_cons.1 hp with rfl | hp
    · show 2 ≤ 4294967296; omega
    · rcases List.mem_cons.1 hp with rfl | hp
      · show 0 ≤ 4294967296; omega
      · simp at hp
  have HPO8 : Hid (PcsOk w8 ps) := by
    rw [← hps]; intro p hp
    rcases List.mem_cons.1 hp with rfl | hp
    · exact HSG8.out
    · rcases List.mem_cons.1 hp with rfl | hp
      · exact Sl.nil
      · simp at hp
  have hall := HALL.out ⟨A7, 2, c7, [0, 0]⟩ ⟨none, 0, 0, []⟩ rfl rfl
  rw [hps] at hall HLL8
  obtain ⟨hal1, hal2, hal3⟩ := hall
  have HA1 := Lib.hid hal1; have HA2 := Lib.hid hal2; have HA3 := Lib.hid hal3
  clear hal1 hal2 hal3 hps
  have HKO : Hid (DsOk [tD1, tD2]) := by
    intro d hd
    rcases List.mem_cons.1 hd with rfl | hd
    · exact tD1_ok
    · rw [List.mem_singleton] at hd; subst hd; exact tD2_ok
  have hle : ([(tD1, m)] : List Ent).length ≤ 65536 := by simp
  have heq' : ∀ W, (Op.equalIn 10000 29 (.agg (dl m).toArray) (.agg #[.int .u8 0, .int .u8 0, .int .u8 0, .int .u8 0, .int .u8 0, .int .u8 0, .int .u8 0, .int .u8 0])).run Try.prog W = .ok false W := heq
  go_wp2_with (first
    | ((with_reducible refine wpList_load_bkG ?_ 31 _ rfl s rfl S 31 HST8.out _ Try.underlying31 rfl HSZ.out ?_); rfl))
  refine (HDG.out w8 HPS8.out).mono ?_
  rintro e w9 ⟨rfl, hbn⟩
  try have HGO9 := Lib.hid (HGO8.out.later hbn)
  try have HPO9 := Lib.hid (HPO8.out.later hbn)
  have HBB9 := Lib.hid (below_then HBB8.out hbn)
  try have HBK9 := Lib.hid (HBK8.out.later hbn)
  try have HKY9 := Lib.hid (HKY8.out.later hbn)
  try have HPS9 := Lib.hid (HPS8.out.later hbn)
  try have HST9 := Lib.hid (HST8.out.later hbn)
  try have HSG9 := Lib.hid (HSG8.out.later hbn)
  try have HLL9 := Lib.hid (HLL8.out.later hbn)
  clear hbn
  go_wp2_with (with_reducible refine stop_bs 77 2 _ rfl ?_)
  refine StopD.go ?_
  (with_reducible refine wpList_bsliceG ?_ 77 2 _ rfl #[(0, .bool false), (1, .bool true)] ?_ 4 (([false, true] : List Bool).map .bool) bs_ft ?_)
  · rfl
  · simp [Act.eval]
  intro q10 w10 _ hky hbn
  have HGO10 := Lib.hid hky
  clear hky
  try have HGO10 := Lib.hid (HGO9.out.later hbn)
  try have HPO10 := Lib.hid (HPO9.out.later hbn)
  have HBB10 := Lib.hid (below_then HBB9.out hbn)
  try have HBK10 := Lib.hid (HBK9.out.later hbn)
  try have HKY10 := Lib.hid (HKY9.out.later hbn)
  try have HPS10 := Lib.hid (HPS9.out.later hbn)
  try have HST10 := Lib.hid (HST9.out.later hbn)
  try have HSG10 := Lib.hid (HSG9.out.later hbn)
  try have HLL10 := Lib.hid (HLL9.out.later hbn)
  clear hbn
  go_wp2_with (first
    | ((with_reducible refine wpList_load_bkG ?_ 31 _ rfl s rfl S 31 HST10.out _ Try.underlying31 rfl HSZ.out ?_); rfl))
  refine (HDG.out w10 HPS10.out).mono ?_
  rintro e w11 ⟨rfl, hbn⟩
  try have HGO11 := Lib.hid (HGO10.out.later hbn)
  try have HPO11 := Lib.hid (HPO10.out.later hbn)
  have HBB11 := Lib.hid (below_then HBB10.out hbn)
  try have HBK11 := Lib.hid (HBK10.out.later hbn)
  try have HKY11 := Lib.hid (HKY10.out.later hbn)
  try have HPS11 := Lib.hid (HPS10.out.later hbn)
  try have HST11 := Lib.hid (HST10.out.later hbn)
  try have HSG11 := Lib.hid (HSG10.out.later hbn)
  try have HLL11 := Lib.hid (HLL10.out.later hbn)
  clear hbn
  go_wp2_with fail
  refine (full_any w11 w.heap.size g [(tD1, m)] HBK11.out hle (some ⟨q1, 0, none⟩) 2 2 [tD1, tD2] (HKY11.out.sl8 HKO.out rfl (by omega)) HKO.out (by omega) (by omega) m HMO.out (some ⟨q8, 0, none⟩) 2 ps (HLL11.out.sl1 (by rw [List.length_map, HPL.out]) (by omega)) HPO11.out HPB.out HPN.out (some ⟨q10, 0, none⟩) 2 2 [false, true] (HGO11.out.sl1 rfl (by omega))).mono ?_
  rw [HA1.out]
  rintro e w12 ⟨rfl, hbn⟩
  try have HGO12 := Lib.hid (HGO11.out.later hbn)
  try have HPO12 := Lib.hid (HPO11.out.later hbn)
  have HBB12 := Lib.hid (below_then HBB11.out hbn)
  try have HBK12 := Lib.hid (HBK11.out.later hbn)
  try have HKY12 := Lib.hid (HKY11.out.later hbn)
  try have HPS12 := Lib.hid (HPS11.out.later hbn)
  try have HST12 := Lib.hid (HST11.out.later hbn)
  try have HSG12 := Lib.hid (HSG11.out.later hbn)
  try have HLL12 := Lib.hid (HLL11.out.later hbn)
  clear hbn
  go_wp2_with (first
    | ((with_reducible refine wpList_load_bkG ?_ 31 _ rfl s rfl S 31 HST12.out _ Try.underlying31 rfl HSZ.out ?_); rfl))
  refine (HDG.out w12 HPS12.out).mono ?_
  rintro e w13 ⟨rfl, hbn⟩
  try have HGO13 := Lib.hid (HGO12.out.later hbn)
  try have HPO13 := Lib.hid (HPO12.out.later hbn)
  have HBB13 := Lib.hid (below_then HBB12.out hbn)
  try have HBK13 := Lib.hid (HBK12.out.later hbn)
  try have HKY13 := Lib.hid (HKY12.out.later hbn)
  try have HPS13 := Lib.hid (HPS12.out.later hbn)
  try have HST13 := Lib.hid (HST12.out.later hbn)
  try have HSG13 := Lib.hid (HSG12.out.later hbn)
  try have HLL13 := Lib.hid (HLL12.out.later hbn)
  clear hbn
  go_wp2_with fail
  refine (full_any w13 w.heap.size g [(tD1, m)] HBK13.out hle (some ⟨q1, 0, none⟩) 2 2 [tD1, tD2] (HKY13.out.sl8 HKO.out rfl (by omega)) HKO.out (by omega) (by omega) m HMO.out (some ⟨q8, 0, none⟩) 2 ps (HLL13.out.sl1 (by rw [List.length_map, HPL.out]) (by omega)) HPO13.out HPB.out HPN.out none 0 0 [] Sl.nil).mono ?_
  rw [HA2.out]
  rintro e w14 ⟨rfl, hbn⟩
  try have HGO14 := Lib.hid (HGO13.out.later hbn)
  try have HPO14 := Lib.hid (HPO13.out.later hbn)
  have HBB14 := Lib.hid (below_then HBB13.out hbn)
  try have HBK14 := Lib.hid (HBK13.out.later hbn)
  try have HKY14 := Lib.hid (HKY13.out.later hbn)
  try have HPS14 := Lib.hid (HPS13.out.later hbn)
  try have HST14 := Lib.hid (HST13.out.later hbn)
  try have HSG14 := Lib.hid (HSG13.out.later hbn)
  try have HLL14 := Lib.hid (HLL13.out.later hbn)
  clear hbn
  go_wp2_with (first
    | ((with_reducible refine wpList_load_bkG ?_ 31 _ rfl s rfl S 31 HST14.out _ Try.underlying31 rfl HSZ.out ?_); rfl))
  refine (HDG.out w14 HPS14.out).mono ?_
  rintro e w15 ⟨rfl, hbn⟩
  try have HGO15 := Lib.hid (HGO14.out.later hbn)
  try have HPO15 := Lib.hid (HPO14.out.later hbn)
  have HBB15 := Lib.hid (below_then HBB14.out hbn)
  try have HBK15 := Lib.hid (HBK14.out.later hbn)
  try have HKY15 := Lib.hid (HKY14.out.later hbn)
  try have HPS15 := Lib.hid (HPS14.out.later hbn)
  try have HST15 := Lib.hid (HST14.out.later hbn)
  try have HSG15 := Lib.hid (HSG14.out.later hbn)
  try have HLL15 := Lib.hid (HLL14.out.later hbn)
  clear hbn
  go_wp2_with fail
  refine (count_any w15 w.heap.size g [(tD1, m)] HBK15.out hle (some ⟨q1, 0, none⟩) 2 2 [tD1, tD2] (HKY15.out.sl8 HKO.out rfl (by omega)) HKO.out (by omega) m HMO.out (some ⟨q8, 0, none⟩) 2 2 ps (HLL15.out.sl1 (by rw [List.length_map, HPL.out]) (by omega)) HPO15.out HPB.out).mono ?_
  rw [HA3.out]
  rintro e w16 ⟨rfl, hbn⟩
  have HBB16 := Lib.hid (below_then HBB15.out hbn)
  clear hbn
  go_wp2_with fail
  go_ret
  exact ⟨rfl, HBB16.out⟩
end Go.Proofs.Ythibihjblodfmaa
