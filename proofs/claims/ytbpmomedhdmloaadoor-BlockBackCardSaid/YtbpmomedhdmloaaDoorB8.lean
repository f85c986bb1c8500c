/- Blocks turned from the document's to the program's, and back; are they few? -/
import Derived.Test.YtbpmomedhdmloaaDoorB7
namespace Go.Proofs.YtbpmomedhdmloaaDoor
set_option linter.unusedSimpArgs false
set_option linter.unusedVariables false
open Go.RowKit Go.Maps

theorem rtx_size : (Tryd.prog.info? 42).map (·.size) = some 13 := by kernel_rfl
theorem rblk_size : (Tryd.prog.info? 25).map (·.size) = some 18 := by kernel_rfl
theorem rblk_sz {p : List Int} {h : Int} {m : List Int} {s : Value} (hp : DgOk p) (hm : DgOk m) : (Tryd.prog.info? 25).map (·.size) = some (bkC p h m s).length := by rw [bkC_len hp hm]; exact rblk_size
theorem Txg.rsize {w : World} {cs : List Value} {t : TxT} (h : Txg w cs t) : (Tryd.prog.info? 42).map (·.size) = some cs.length := by rw [h.len]; exact rtx_size
def zBk : List Value := [.int .u8 0, .int .u8 0, .int .u8 0, .int .u8 0, .int .u8 0, .int .u8 0, .int .u8 0, .int .u8 0, .int .i64 0, .int .u8 0, .int .u8 0, .int .u8 0, .int .u8 0, .int .u8 0, .int .u8 0, .int .u8 0, .int .u8 0, .slice none 0 0]
theorem build_blk {p m : List Int} (hp : DgOk p) (hm : DgOk m) (h : Int) (w : World) : (Instr.build 31 #[(0, .agg (dl p).toArray), (1, .int .i64 h), (2, .agg (dl m).toArray)]).run Tryd.prog w = .ok (.agg (bkC p h m (.slice none 0 0)).toArray) w := by
  obtain ⟨x0, x1, x2, x3, x4, x5, x6, x7, rfl⟩ := list8 p hp.len
  obtain ⟨y0, y1, y2, y3, y4, y5, y6, y7, rfl⟩ := list8 m hm.len
  kernel_rfl
theorem build_rblk {p m : List Int} (hp : DgOk p) (hm : DgOk m) (h : Int) (w : World) : (Instr.build 25 #[(0, .agg (dl p).toArray), (1, .int .i64 h), (2, .agg (dl m).toArray)]).run Tryd.prog w = .ok (.agg (bkC p h m (.slice none 0 0)).toArray) w := by
  obtain ⟨x0, x1, x2, x3, x4, x5, x6, x7, rfl⟩ := list8 p hp.len
  obtain ⟨y0, y1, y2, y3, y4, y5, y6, y7, rfl⟩ := list8 m hm.len
  kernel_rfl
theorem build_tx {t : TxT} (h : DgOk t.f) (A B : Option Addr) (N C M D : Nat) (w : World) : (Instr.build 47 #[(0, .agg (dl t.f).toArray), (1, .int .i64 t.n), (2, .int .i64 t.e), (3, .int .i64 t.k), (4, .slice A N C), (5, .slice B M D)]).run Tryd.prog w = .ok (.agg (txC t (.slice A N C) (.slice B M D)).toArray) w := by
  obtain ⟨f, n, e, k, b, s⟩ := t
  obtain ⟨x0, x1, x2, x3, x4, x5, x6, x7, rfl⟩ := list8 f h.len
  kernel_rfl
theorem build_rtx {t : TxT} (h : DgOk t.f) (A B : Option Addr) (N C M D : Nat) (w : World) : (Instr.build 42 #[(0, .agg (dl t.f).toArray), (1, .int .i64 t.n), (2, .int .i64 t.e), (3, .int .i64 t.k), (4, .slice A N C), (5, .slice B M D)]).run Tryd.prog w = .ok (.agg (txC t (.slice A N C) (.slice B M D)).toArray) w := by
  obtain ⟨f, n, e, k, b, s⟩ := t
  obtain ⟨x0, x1, x2, x3, x4, x5, x6, x7, rfl⟩ := list8 f h.len
  kernel_rfl
theorem bs_tx {t : TxT} (h : DgOk t.f) (A B : Option Addr) (N C M D : Nat) (w : World) : (Instr.buildSlice 29 1 #[(0, .agg (txC t (.slice A N C) (.slice B M D)).toArray)]).run Tryd.prog w = .ok (.slice (some ⟨w.heap.size, 0, none⟩) 1 1) (w.alloc (.cells (txC t (.slice A N C) (.slice B M D)).toArray 47)) := by
  obtain ⟨f, n, e, k, b, s⟩ := t
  obtain ⟨x0, x1, x2, x3, x4, x5, x6, x7, rfl⟩ := list8 f h.len
  kernel_rfl
theorem bs_rtx {t : TxT} (h : DgOk t.f) (A B : Option Addr) (N C M D : Nat) (w : World) : (Instr.buildSlice 23 1 #[(0, .agg (txC t (.slice A N C) (.slice B M D)).toArray)]).run Tryd.prog w = .ok (.slice (some ⟨w.heap.size, 0, none⟩) 1 1) (w.alloc (.cells (txC t (.slice A N C) (.slice B M D)).toArray 42)) := by
  obtain ⟨f, n, e, k, b, s⟩ := t
  obtain ⟨x0, x1, x2, x3, x4, x5, x6, x7, rfl⟩ := list8 f h.len
  kernel_rfl
theorem Tryd.infoTx : (Tryd.prog.info? 47).map (fun i => (i.zero, i.size, i.bytes)) = some (some (.agg zTx.toArray), 13, 80) := by kernel_rfl
theorem Tryd.infoRtx : (Tryd.prog.info? 42).map (fun i => (i.zero, i.size, i.bytes)) = some (some (.agg zTx.toArray), 13, 80) := by kernel_rfl
/-- A slice of rows, one row more. -/
theorem flat_snoc {xs : List (List Value × TxT)} {k : Nat} {x : List Value × TxT} (hk : xs[k]? = some x) : ((xs.map (·.1)).take (k + 1)).flatten = ((xs.map (·.1)).take k).flatten ++ x.1 := by
  rw [take_snoc (z := x.1) (by rw [List.getElem?_map, hk]; rfl), List.flatten_append]
  simp
/-- How many bytes there are. -/
def bytesS (L : List TxT) : Int := (L.map fun t => (t.b.length : Int) + t.s.length).foldl (· + ·) 0
def fewT (L : List TxT) : Bool := decide (L.length ≤ 66) && decide (bytesS L ≤ 3000)
theorem foldl_from : ∀ (l : List Int) (s : Int), l.foldl (· + ·) s = s + l.foldl (· + ·) 0 := by
  intro l
  induction l with
  | nil => intro s; simp
  | cons x l ih => intro s; simp only [List.foldl_cons]; rw [ih, ih (0 + x)]; omega
theorem bytesS_snoc (L : List TxT) (t : TxT) : bytesS (L ++ [t]) = bytesS L + (t.b.length + t.s.length) := by
  unfold bytesS
  rw [List.map_append, List.foldl_append]; rfl
theorem bytesS_cons (L : List TxT) (t : TxT) : bytesS (t :: L) = (t.b.length + t.s.length) + bytesS L := by
  unfold bytesS
  rw [List.map_cons, List.foldl_cons, foldl_from, Int.zero_add]
theorem bytesS_pos : ∀ L : List TxT, 0 ≤ bytesS L
  | [] => Int.le_refl _
  | t :: L => by rw [bytesS_cons]; have := bytesS_pos L; omega
theorem bytesS_le : ∀ (L : List TxT) (M : Nat), (∀ t ∈ L, t.b.length ≤ M ∧ t.s.length ≤ M) → bytesS L ≤ 2 * M * L.length
  | [], M, _ => by simp [bytesS]
  | t :: L, M, h => by
    have h1 := bytesS_le L M (fun x hx => h x (List.mem_cons_of_mem _ hx))
    have h2 := h t List.mem_cons_self
    rw [bytesS_cons, List.length_cons, Int.natCast_add, Int.mul_add]
    simp only [Int.natCast_one, Int.mul_one]
    omega
theorem bytesS_each {L : List TxT} {t : TxT} (h : t ∈ L) : (t.b.length : Int) + t.s.length ≤ bytesS L := by
  induction L with
  | nil => cases h
  | cons u L ih =>
    rw [bytesS_cons]
    rcases List.mem_cons.1 h with rfl | h
    · have := bytesS_pos L; omega
    · have := ih h; omega
theorem few_each {L : List TxT} (h : fewT L = true) : ∀ t ∈ L, t.b.length ≤ 3000 ∧ t.s.length ≤ 3000 := fun t ht => by
  unfold fewT at h
  simp only [Bool.and_eq_true, decide_eq_true_eq] at h
  have := bytesS_each ht
  omega
theorem few_len {L : List TxT} (h : fewT L = true) : L.length ≤ 66 := by
  unfold fewT at h
  simp only [Bool.and_eq_true, decide_eq_true_eq] at h
  exact h.1
set_option maxRecDepth 20000 in
set_option maxHeartbeats 8000000 in
theorem of_any (w : World) (p : List Int) (h : Int) (m : List Int) (hp : DgOk p) (hm : DgOk m) (A : Option Addr) (N C : Nat) (xs : List (List Value × TxT)) (hx : Txs w A N xs) (hN : N ≤ 1000) :
    Calls Tryd.prog 10 #[.agg (bkC p h m (.slice A N C)).toArray] w fun e w' => (∃ v, e = .returned (.agg (bkC p h m v).toArray) ∧ w'.ownsRow w.heap.size 47 13 v N (xs.map (·.1)).flatten) ∧ Below w.heap.size w w' := by
  have HBS := Lib.hid (fun s => blk_sz (h := h) (s := s) hp hm)
  obtain ⟨l, hl⟩ : ∃ x, bkC p h m (.slice A N C) = x := ⟨_, rfl⟩
  obtain ⟨X, hX⟩ : ∃ X, l.toArray = X := ⟨_, rfl⟩
  obtain ⟨z, hz⟩ : ∃ z, w.heap.size = z := ⟨_, rfl⟩
  obtain ⟨w1, hw1⟩ : ∃ w1, (w.alloc (.cells X 25)).alloc (.cells #[.int .u8 0, .int .u8 0, .int .u8 0, .int .u8 0, .int .u8 0, .int .u8 0, .int .u8 0, .int .u8 0, .int .i64 0, .int .u8 0, .int .u8 0, .int .u8 0, .int .u8 0, .int .u8 0, .int .u8 0, .int .u8 0, .int .u8 0, .slice none 0 0] 31) = w1 := ⟨_, rfl⟩
  have hb1 : Below w.heap.size w w1 := hw1 ▸ (below_new w _).alloc (by simp) _
  have kx : Bk w1 z 25 l := hw1 ▸ (Bk.at_ w _ X hz (by rw [← hX])).alloc _
  have kr : Bk w1 (z + 1) 31 zBk := hw1 ▸ Bk.at_ _ _ #[.int .u8 0, .int .u8 0, .int .u8 0, .int .u8 0, .int .u8 0, .int .u8 0, .int .u8 0, .int .u8 0, .int .i64 0, .int .u8 0, .int .u8 0, .int .u8 0, .int .u8 0, .int .u8 0, .int .u8 0, .int .u8 0, .int .u8 0, .slice none 0 0] (by simp [hz]) rfl
  have hbm := bkc_mem hp hm (by rw [hl]; exact kx)
  have c8 := hbm.c8; have c17 := hbm.c17
  have HR0 := Lib.hid hbm.r0; have HR9 := Lib.hid hbm.r9
  have HW := Lib.hid hw1; have HBB1 := Lib.hid hb1; have HZ := Lib.hid hz; have HK1 := Lib.hid kx; have HPO := Lib.hid hp; have HMO := Lib.hid hm; have HRR := Lib.hid kr
  have HXS := Lib.hid (hx.later hb1); have HLN := Lib.hid hx.length
  rw [hl, hX]
  clear hl hX hw1 hb1 kx kr hbm hz hp hm hx
  obtain ⟨i0, hi, hi0, hi1, hi2⟩ := info_parts Tryd.infoTx
  have hsz1 : w1.heap.size = z + 2 := by rw [← HW.out]; simp [HZ.out]
  have HS1 := Lib.hid hsz1
  clear hsz1
  go_enter Tryd.func10, Tryd.ntmps10
  go_upto_region 1 with fail
  rw [HW.out, HZ.out]
  go_wp2_with (first
    | (with_reducible refine wpList_load_mid rfl 22 _ rfl z 0 rfl (dl p) _ HR0.out Tryd.underlying22 rfl (r8d_size _ HPO.out) ?_)
    | (with_reducible refine wpList_load_mid rfl 22 _ rfl z 9 rfl (dl m) _ HR9.out Tryd.underlying22 rfl (r8d_size _ HMO.out) ?_)
    | ((with_reducible refine wpList_build rfl 31 _ rfl #[(0, .agg (dl p).toArray), (1, .int .i64 h), (2, .agg (dl m).toArray)] ?_ _ (build_blk HPO.out HMO.out h _) ?_); focus (simp [Act.eval, Act.put]; done))
    | (with_reducible refine stop_store 31 _ _ rfl ?_))
  refine StopD.go ?_
  obtain ⟨g, hg⟩ : ∃ g, w1.heap.size = g := ⟨_, rfl⟩
  have hbn : Below w1.heap.size w1 (w1.alloc (.cells #[.int .u8 0, .int .u8 0, .int .u8 0, .int .u8 0, .int .u8 0, .int .u8 0, .int .u8 0, .int .u8 0, .int .i64 0, .int .u8 0, .int .u8 0, .int .u8 0, .int .u8 0, .int .u8 0, .int .u8 0, .int .u8 0, .int .u8 0, .slice none 0 0] 31)) := below_new w1 _
  have kt : Bk (w1.alloc (.cells #[.int .u8 0, .int .u8 0, .int .u8 0, .int .u8 0, .int .u8 0, .int .u8 0, .int .u8 0, .int .u8 0, .int .i64 0, .int .u8 0, .int .u8 0, .int .u8 0, .int .u8 0, .int .u8 0, .int .u8 0, .int .u8 0, .int .u8 0, .slice none 0 0] 31)) g 31 ([] ++ (zBk ++ [])) := by rw [← hg]; exact Bk.new' w1 _ #[.int .u8 0, .int .u8 0, .int .u8 0, .int .u8 0, .int .u8 0, .int .u8 0, .int .u8 0, .int .u8 0, .int .i64 0, .int .u8 0, .int .u8 0, .int .u8 0, .int .u8 0, .int .u8 0, .int .u8 0, .int .u8 0, .int .u8 0, .slice none 0 0] rfl
  rw [hg]
  refine wpList_store_part rfl 31 _ _ rfl g 0 (.agg (bkC p h m (.slice none 0 0)).toArray) (bkC p h m (.slice none 0 0)) rfl rfl rfl 31 [] zBk [] kt rfl (by rw [bkC_len HPO.out HMO.out]; rfl) (HBS.out _) bkC_one ?_
  intro w2 hp
  have hbn : Below w1.heap.size w1 w2 := hbn.grown hp.only hbn.size (fun q hq => by injection hq with hq; omega)
  have HK2 : Hid (Bk w2 g 31 (bkC p h m (.slice none 0 0))) := by show Bk _ _ _ _; have := hp.bk; simpa using this
  have HGG : Hid (w1.heap.size = g) := hg
  have HB2 := Lib.hid hbn
  have hc17 : w2.cell? ⟨z, 17, none⟩ = some (.slice A N C) := (hbn.cell (p := ⟨z, 17, none⟩) HK1.out.lt).trans c17
  clear hp kt hg hbn c8 c17
  go_wp2_with fail
  clear hc17
  go_loopw [5, 16] (fun _ kv wr => ∃ (k : Nat) (v : Value), k ≤ N ∧ kv = .int .i64 k ∧ Hid (wr.ownsRow w1.heap.size 47 13 v k ((xs.map (·.1)).take k).flatten) ∧ Hid (Bk wr g 31 (bkC p h m v)) ∧ Hid (Below w1.heap.size w1 wr)) (fun _ kv _ => N - (intOf kv).toNat)
  case atStart => exact ⟨0, .slice none 0 0, Nat.zero_le _, rfl, World.ownsRow_nil _ _ _ _, HK2.out, HB2.out⟩
  case round =>
    obtain ⟨k, v, hk, rfl, HJ, HK, HB⟩ := hrel
    obtain ⟨A0, c0, rfl⟩ := own_form HJ.out
    by_cases hlt : k < N
    · have hki : (k : Int) < N := by omega
      have hk0 : (0 : Int) ≤ k := by omega
      obtain ⟨⟨cs, t⟩, hx⟩ : ∃ x, xs[k]? = some x := ⟨xs[k]'(by rw [HLN.out]; omega), List.getElem?_eq_getElem _⟩
      have hg : Txg wr cs t := (HXS.out.later HB.out).th (cs, t) (List.mem_of_getElem? hx)
      obtain ⟨b, o, rfl, hr, _⟩ := HXS.out.at_ HB.out hx
      have hr : wr.rangeAt b (o + k * 13) cs := hr
      have HFS : Hid (((xs.map (·.1)).take (k + 1)).flatten = ((xs.map (·.1)).take k).flatten ++ cs) := flat_snoc hx
      have HG : Hid (Txg wr cs t) := hg
      obtain ⟨⟨A1, B1, N1, C1, M1, D1, rfl, _⟩, hok⟩ := hg
      have HR := Lib.hid hr; have HTO := Lib.hid hok.f
      clear hr hx hok
      go_wp2_with (first
        | (with_reducible refine wpList_load_mid rfl 42 _ rfl b (o + k * 13) rfl (txC t (.slice A1 N1 C1) (.slice B1 M1 D1)) _ HR.out Tryd.underlying42 rfl HG.out.rsize ?_)
        | (with_reducible refine stop_store 42 _ _ rfl ?_))
      refine StopD.go ?_
      obtain ⟨g5, hg5⟩ : ∃ g, wr.heap.size = g := ⟨_, rfl⟩
      have hbn : Below wr.heap.size wr (wr.alloc (.cells #[.int .u8 0, .int .u8 0, .int .u8 0, .int .u8 0, .int .u8 0, .int .u8 0, .int .u8 0, .int .u8 0, .int .i64 0, .int .i64 0, .int .i64 0, .slice none 0 0, .slice none 0 0] 42)) := below_new wr _
      have kt : Bk (wr.alloc (.cells #[.int .u8 0, .int .u8 0, .int .u8 0, .int .u8 0, .int .u8 0, .int .u8 0, .int .u8 0, .int .u8 0, .int .i64 0, .int .i64 0, .int .i64 0, .slice none 0 0, .slice none 0 0] 42)) g5 42 ([] ++ (zTx ++ [])) := by rw [← hg5]; exact Bk.new' wr _ #[.int .u8 0, .int .u8 0, .int .u8 0, .int .u8 0, .int .u8 0, .int .u8 0, .int .u8 0, .int .u8 0, .int .i64 0, .int .i64 0, .int .i64 0, .slice none 0 0, .slice none 0 0] rfl
      rw [hg5]
      refine wpList_store_part rfl 42 _ _ rfl g5 0 (.agg (txC t (.slice A1 N1 C1) (.slice B1 M1 D1)).toArray) (txC t (.slice A1 N1 C1) (.slice B1 M1 D1)) rfl rfl rfl 42 [] zTx [] kt rfl (by rw [HG.out.len]; rfl) HG.out.rsize HG.out.one ?_
      intro w5 hp
      have hbn : Below wr.heap.size wr w5 := hbn.grown hp.only hbn.size (fun q hq => by injection hq with hq; omega)
      have HT5 : Hid (Bk w5 g5 42 (txC t (.slice A1 N1 C1) (.slice B1 M1 D1))) := by show Bk _ _ _ _; have := hp.bk; simpa using this
      clear hp kt hg5
      have HB5 := Lib.hid (below_then HB.out hbn); have HJ5 := Lib.hid (own_keep HJ.out hbn); have HK5 := Lib.hid (HK.out.later hbn)
      have hm5 := tx_mem HTO.out HT5.out
      have h58 := hm5.c8; have h59 := hm5.c9; have h5a := hm5.c10; have h5b := hm5.c11; have h5c := hm5.c12
      simp only [Nat.zero_add] at h58 h59 h5a h5b h5c
      have HM0 := Lib.hid hm5.r0
      have hv17 := (bkc_mem HPO.out HMO.out HK5.out).c17
      clear hbn HJ HK hm5
      go_wp2_with (first
        | (with_reducible refine wpList_load_mid rfl 22 _ rfl g5 0 rfl (dl t.f) _ HM0.out Tryd.underlying22 rfl (r8d_size _ HTO.out) ?_)
        | ((with_reducible refine wpList_build rfl 47 _ rfl #[(0, .agg (dl t.f).toArray), (1, .int .i64 t.n), (2, .int .i64 t.e), (3, .int .i64 t.k), (4, .slice A1 N1 C1), (5, .slice B1 M1 D1)] ?_ _ (build_tx HTO.out A1 B1 N1 C1 M1 D1 _) ?_); focus (simp [Act.eval, Act.put]; done))
        | (with_reducible refine stop_bs2 29 _ _ rfl ?_))
      refine StopD.go ?_
      refine wpList_bsliceG2 rfl 29 1 _ rfl #[(0, .agg (txC t (.slice A1 N1 C1) (.slice B1 M1 D1)).toArray)] ?_ 47 (txC t (.slice A1 N1 C1) (.slice B1 M1 D1)) (fun w => bs_tx HTO.out A1 B1 N1 C1 M1 D1 w) ?_
      · simp [Act.eval, Act.put]
      intro q8 w8 hq8 hb8 hbn
      have HB8 := Lib.hid (below_then HB5.out hbn); have HJ8 := Lib.hid (own_keep HJ5.out hbn); have HK8 := Lib.hid (HK5.out.later hbn); have HC8 := Lib.hid hb8
      clear hq8 hb8 hbn h58 h59 h5a h5b h5c hv17
      go_wp2_with (at_builtin; refine stop_here2 ?_)
      refine StopD.go ?_
      refine wpList_app _ rfl (.tmp 21) (.tmp 35) 29 rfl w1.heap.size 47 i0 (.agg zTx.toArray) 13 80 Tryd.underlying29 hi hi0 hi1 hi2 rfl (by decide) _ _ _ rfl HJ8.out _ _ _ _ _ rfl (Sl.of_own (HC8.out.own (base := 0) (size := 13) (cap := 1) (n := 1) (Nat.zero_le _) (Nat.le_refl _) (by omega) (by rw [txC_len HTO.out]) (by rw [List.take_of_length_le (by rw [txC_len HTO.out]; exact Nat.le_refl _)]))) txC_one (by unfold maxLen; omega) (by omega) HB8.out.size ?_
      intro v9 w9 hown hgr hat
      have hne := own_bk_ne HJ8.out HK8.out (by decide)
      have HB9 := Lib.hid (grown_below HB8.out HJ8.out hgr (Nat.le_refl _) HB8.out.size)
      have HK9 := Lib.hid (HK8.out.grown hgr (Ne.symm hne))
      have hown : w9.ownsRow w1.heap.size 47 13 v9 (k + 1) ((xs.map (·.1)).take (k + 1)).flatten := by rw [HFS.out]; exact hown
      obtain ⟨A9, c9, rfl⟩ := own_form hown
      have HJ9 := Lib.hid hown
      clear hown hgr hat hne
      go_wp2_with (with_reducible refine stop_store 29 _ _ rfl ?_)
      refine StopD.go ?_
      refine wpList_store_part rfl 29 _ _ rfl g 17 (.slice A9 (k + 1) c9) [.slice A9 (k + 1) c9] rfl rfl rfl 31 (dl p ++ .int .i64 h :: dl m) [.slice A0 k c0] [] (by have := HK9.out; simpa [bkC] using this) (by simp [dl_len, HPO.out.len, HMO.out.len]) rfl (by kernel_rfl) (by intro x hx; simp at hx; subst hx; rfl) ?_
      intro w10 hp
      have HKa : Hid (Bk w10 g 31 (bkC p h m (.slice A9 (k + 1) c9))) := by show Bk _ _ _ _; have := hp.bk; simpa [bkC] using this
      have HJa := Lib.hid (own_only HJ9.out hp.only (own_bk_ne HJ9.out HK9.out (by decide)))
      have HBa := Lib.hid (below_only HB9.out hp.only HB9.out.size (Nat.le_of_eq HGG.out))
      clear hp HJ9 HK9 HB9
      go_wp2_with fail
      go_roundw
      case rel => exact ⟨k + 1, _, hlt, by go_num, HJa, HKa, HBa⟩
      case measure => simp [intOf]; omega
    · have hki : ¬ ((k : Int) < N) := by omega
      obtain rfl : k = N := by omega
      have HRr := Lib.hid (HRR.out.later HB.out)
      go_wp2_with (first
        | (with_reducible refine wpList_load_bk rfl 31 _ rfl g rfl (bkC p h m (.slice A0 k c0)) 31 HK.out _ Tryd.underlying31 rfl (HBS.out _) ?_)
        | (with_reducible refine stop_store 31 _ _ rfl ?_))
      refine StopD.go ?_
      refine wpList_store_part rfl 31 _ _ rfl (z + 1) 0 (.agg (bkC p h m (.slice A0 k c0)).toArray) (bkC p h m (.slice A0 k c0)) rfl rfl rfl 31 [] zBk [] (by have := HRr.out; simpa using this) rfl (by rw [bkC_len HPO.out HMO.out]; rfl) (HBS.out _) bkC_one ?_
      intro w3 hp
      have HR3 : Hid (Bk w3 (z + 1) 31 (bkC p h m (.slice A0 k c0))) := by show Bk _ _ _ _; have := hp.bk; simpa using this
      have hne : (Value.slice A0 k c0).ownBlock ≠ some (z + 1) := by
        intro e
        have h1 := (HJ.out.lt _ e).1
        have h2 := HS1.out
        omega
      have HJ3 := Lib.hid (own_only HJ.out hp.only hne)
      have HB3 := Lib.hid (below_only (below_then HBB1.out HB.out) hp.only (below_then HBB1.out HB.out).size (by have := HZ.out; omega))
      clear hp hne
      go_wp2_with fail
      refine bodyPost_ret (results_cell_bk rfl _ _ (z + 1) 31 (bkC p h m (.slice A0 k c0)) _ rfl HR3.out Tryd.underlying31 rfl (HBS.out _)) rfl ?_
      have hh := HJ3.out
      rw [List.take_of_length_le (by rw [List.length_map, HLN.out]; exact Nat.le_refl _)] at hh
      exact ⟨⟨_, rfl, own_base hh HBB1.out.size⟩, HB3.out⟩
set_option maxRecDepth 20000 in
set_option maxHeartbeats 8000000 in
theorem to_any (w : World) (p : List Int) (h : Int) (m : List Int) (hp : DgOk p) (hm : DgOk m) (A : Option Addr) (N C : Nat) (xs : List (List Value × TxT)) (hx : Txs w A N xs) (hN : N ≤ 1000) :
    Calls Tryd.prog 21 #[.agg (bkC p h m (.slice A N C)).toArray] w fun e w' => (∃ v, e = .returned (.agg (bkC p h m v).toArray) ∧ w'.ownsRow w.heap.size 42 13 v N (xs.map (·.1)).flatten) ∧ Below w.heap.size w w' := by
  have HBS := Lib.hid (fun s => rblk_sz (h := h) (s := s) hp hm)
  obtain ⟨l, hl⟩ : ∃ x, bkC p h m (.slice A N C) = x := ⟨_, rfl⟩
  obtain ⟨X, hX⟩ : ∃ X, l.toArray = X := ⟨_, rfl⟩
  obtain ⟨z, hz⟩ : ∃ z, w.heap.size = z := ⟨_, rfl⟩
  obtain ⟨w1, hw1⟩ : ∃ w1, (w.alloc (.cells X 31)).alloc (.cells #[.int .u8 0, .int .u8 0, .int .u8 0, .int .u8 0, .int .u8 0, .int .u8 0, .int .u8 0, .int .u8 0, .int .i64 0, .int .u8 0, .int .u8 0, .int .u8 0, .int .u8 0, .int .u8 0, .int .u8 0, .int .u8 0, .int .u8 0, .slice none 0 0] 25) = w1 := ⟨_, rfl⟩
  have hb1 : Below w.heap.size w w1 := hw1 ▸ (below_new w _).alloc (by simp) _
  have kx : Bk w1 z 31 l := hw1 ▸ (Bk.at_ w _ X hz (by rw [← hX])).alloc _
  have kr : Bk w1 (z + 1) 25 zBk := hw1 ▸ Bk.at_ _ _ #[.int .u8 0, .int .u8 0, .int .u8 0, .int .u8 0, .int .u8 0, .int .u8 0, .int .u8 0, .int .u8 0, .int .i64 0, .int .u8 0, .int .u8 0, .int .u8 0, .int .u8 0, .int .u8 0, .int .u8 0, .int .u8 0, .int .u8 0, .slice none 0 0] (by simp [hz]) rfl
  have hbm := bkc_mem hp hm (by rw [hl]; exact kx)
  have c8 := hbm.c8; have c17 := hbm.c17
  have HR0 := Lib.hid hbm.r0; have HR9 := Lib.hid hbm.r9
  have HW := Lib.hid hw1; have HBB1 := Lib.hid hb1; have HZ := Lib.hid hz; have HK1 := Lib.hid kx; have HPO := Lib.hid hp; have HMO := Lib.hid hm; have HRR := Lib.hid kr
  have HXS := Lib.hid (hx.later hb1); have HLN := Lib.hid hx.length
  rw [hl, hX]
  clear hl hX hw1 hb1 kx kr hbm hz hp hm hx
  obtain ⟨i0, hi, hi0, hi1, hi2⟩ := info_parts Tryd.infoRtx
  have hsz1 : w1.heap.size = z + 2 := by rw [← HW.out]; simp [HZ.out]
  have HS1 := Lib.hid hsz1
  clear hsz1
  go_enter Tryd.func21, Tryd.ntmps21
  go_upto_region 1 with fail
  rw [HW.out, HZ.out]
  go_wp2_with (first
    | (with_reducible refine wpList_load_mid rfl 28 _ rfl z 0 rfl (dl p) _ HR0.out Tryd.underlying28 rfl (hdg_size _ HPO.out) ?_)
    | (with_reducible refine wpList_load_mid rfl 28 _ rfl z 9 rfl (dl m) _ HR9.out Tryd.underlying28 rfl (hdg_size _ HMO.out) ?_)
    | ((with_reducible refine wpList_build rfl 25 _ rfl #[(0, .agg (dl p).toArray), (1, .int .i64 h), (2, .agg (dl m).toArray)] ?_ _ (build_rblk HPO.out HMO.out h _) ?_); focus (simp [Act.eval, Act.put]; done))
    | (with_reducible refine stop_store 25 _ _ rfl ?_))
  refine StopD.go ?_
  obtain ⟨g, hg⟩ : ∃ g, w1.heap.size = g := ⟨_, rfl⟩
  have hbn : Below w1.heap.size w1 (w1.alloc (.cells #[.int .u8 0, .int .u8 0, .int .u8 0, .int .u8 0, .int .u8 0, .int .u8 0, .int .u8 0, .int .u8 0, .int .i64 0, .int .u8 0, .int .u8 0, .int .u8 0, .int .u8 0, .int .u8 0, .int .u8 0, .int .u8 0, .int .u8 0, .slice none 0 0] 25)) := below_new w1 _
  have kt : Bk (w1.alloc (.cells #[.int .u8 0, .int .u8 0, .int .u8 0, .int .u8 0, .int .u8 0, .int .u8 0, .int .u8 0, .int .u8 0, .int .i64 0, .int .u8 0, .int .u8 0, .int .u8 0, .int .u8 0, .int .u8 0, .int .u8 0, .int .u8 0, .int .u8 0, .slice none 0 0] 25)) g 25 ([] ++ (zBk ++ [])) := by rw [← hg]; exact Bk.new' w1 _ #[.int .u8 0, .int .u8 0, .int .u8 0, .int .u8 0, .int .u8 0, .int .u8 0, .int .u8 0, .int .u8 0, .int .i64 0, .int .u8 0, .int .u8 0, .int .u8 0, .int .u8 0, .int .u8 0, .int .u8 0, .int .u8 0, .int .u8 0, .slice none 0 0] rfl
  rw [hg]
  refine wpList_store_part rfl 25 _ _ rfl g 0 (.agg (bkC p h m (.slice none 0 0)).toArray) (bkC p h m (.slice none 0 0)) rfl rfl rfl 25 [] zBk [] kt rfl (by rw [bkC_len HPO.out HMO.out]; rfl) (HBS.out _) bkC_one ?_
  intro w2 hp
  have hbn : Below w1.heap.size w1 w2 := hbn.grown hp.only hbn.size (fun q hq => by injection hq with hq; omega)
  have HK2 : Hid (Bk w2 g 25 (bkC p h m (.slice none 0 0))) := by show Bk _ _ _ _; have := hp.bk; simpa using this
  have HGG : Hid (w1.heap.size = g) := hg
  have HB2 := Lib.hid hbn
  have hc17 : w2.cell? ⟨z, 17, none⟩ = some (.slice A N C) := (hbn.cell (p := ⟨z, 17, none⟩) HK1.out.lt).trans c17
  clear hp kt hg hbn c8 c17
  go_wp2_with fail
  clear hc17
  go_loopw [5, 16] (fun _ kv wr => ∃ (k : Nat) (v : Value), k ≤ N ∧ kv = .int .i64 k ∧ Hid (wr.ownsRow w1.heap.size 42 13 v k ((xs.map (·.1)).take k).flatten) ∧ Hid (Bk wr g 25 (bkC p h m v)) ∧ Hid (Below w1.heap.size w1 wr)) (fun _ kv _ => N - (intOf kv).toNat)
  case atStart => exact ⟨0, .slice none 0 0, Nat.zero_le _, rfl, World.ownsRow_nil _ _ _ _, HK2.out, HB2.out⟩
  case round =>
    obtain ⟨k, v, hk, rfl, HJ, HK, HB⟩ := hrel
    obtain ⟨A0, c0, rfl⟩ := own_form HJ.out
    by_cases hlt : k < N
    · have hki : (k : Int) < N := by omega
      have hk0 : (0 : Int) ≤ k := by omega
      obtain ⟨⟨cs, t⟩, hx⟩ : ∃ x, xs[k]? = some x := ⟨xs[k]'(by rw [HLN.out]; omega), List.getElem?_eq_getElem _⟩
      have hg : Txg wr cs t := (HXS.out.later HB.out).th (cs, t) (List.mem_of_getElem? hx)
      obtain ⟨b, o, rfl, hr, _⟩ := HXS.out.at_ HB.out hx
      have hr : wr.rangeAt b (o + k * 13) cs := hr
      have HFS : Hid (((xs.map (·.1)).take (k + 1)).flatten = ((xs.map (·.1)).take k).flatten ++ cs) := flat_snoc hx
      have HG : Hid (Txg wr cs t) := hg
      obtain ⟨⟨A1, B1, N1, C1, M1, D1, rfl, _⟩, hok⟩ := hg
      have HR := Lib.hid hr; have HTO := Lib.hid hok.f
      clear hr hx hok
      go_wp2_with (first
        | (with_reducible refine wpList_load_mid rfl 47 _ rfl b (o + k * 13) rfl (txC t (.slice A1 N1 C1) (.slice B1 M1 D1)) _ HR.out Tryd.underlying47 rfl HG.out.size ?_)
        | (with_reducible refine stop_store 47 _ _ rfl ?_))
      refine StopD.go ?_
      obtain ⟨g5, hg5⟩ : ∃ g, wr.heap.size = g := ⟨_, rfl⟩
      have hbn : Below wr.heap.size wr (wr.alloc (.cells #[.int .u8 0, .int .u8 0, .int .u8 0, .int .u8 0, .int .u8 0, .int .u8 0, .int .u8 0, .int .u8 0, .int .i64 0, .int .i64 0, .int .i64 0, .slice none 0 0, .slice none 0 0] 47)) := below_new wr _
      have kt : Bk (wr.alloc (.cells #[.int .u8 0, .int .u8 0, .int .u8 0, .int .u8 0, .int .u8 0, .int .u8 0, .int .u8 0, .int .u8 0, .int .i64 0, .int .i64 0, .int .i64 0, .slice none 0 0, .slice none 0 0] 47)) g5 47 ([] ++ (zTx ++ [])) := by rw [← hg5]; exact Bk.new' wr _ #[.int .u8 0, .int .u8 0, .int .u8 0, .int .u8 0, .int .u8 0, .int .u8 0, .int .u8 0, .int .u8 0, .int .i64 0, .int .i64 0, .int .i64 0, .slice none 0 0, .slice none 0 0] rfl
      rw [hg5]
      refine wpList_store_part rfl 47 _ _ rfl g5 0 (.agg (txC t (.slice A1 N1 C1) (.slice B1 M1 D1)).toArray) (txC t (.slice A1 N1 C1) (.slice B1 M1 D1)) rfl rfl rfl 47 [] zTx [] kt rfl (by rw [HG.out.len]; rfl) HG.out.size HG.out.one ?_
      intro w5 hp
      have hbn : Below wr.heap.size wr w5 := hbn.grown hp.only hbn.size (fun q hq => by injection hq with hq; omega)
      have HT5 : Hid (Bk w5 g5 47 (txC t (.slice A1 N1 C1) (.slice B1 M1 D1))) := by show Bk _ _ _ _; have := hp.bk; simpa using this
      clear hp kt hg5
      have HB5 := Lib.hid (below_then HB.out hbn); have HJ5 := Lib.hid (own_keep HJ.out hbn); have HK5 := Lib.hid (HK.out.later hbn)
      have hm5 := tx_mem HTO.out HT5.out
      have h58 := hm5.c8; have h59 := hm5.c9; have h5a := hm5.c10; have h5b := hm5.c11; have h5c := hm5.c12
      simp only [Nat.zero_add] at h58 h59 h5a h5b h5c
      have HM0 := Lib.hid hm5.r0
      have hv17 := (bkc_mem HPO.out HMO.out HK5.out).c17
      clear hbn HJ HK hm5
      go_wp2_with (first
        | (with_reducible refine wpList_load_mid rfl 28 _ rfl g5 0 rfl (dl t.f) _ HM0.out Tryd.underlying28 rfl (hdg_size _ HTO.out) ?_)
        | ((with_reducible refine wpList_build rfl 42 _ rfl #[(0, .agg (dl t.f).toArray), (1, .int .i64 t.n), (2, .int .i64 t.e), (3, .int .i64 t.k), (4, .slice A1 N1 C1), (5, .slice B1 M1 D1)] ?_ _ (build_rtx HTO.out A1 B1 N1 C1 M1 D1 _) ?_); focus (simp [Act.eval, Act.put]; done))
        | (with_reducible refine stop_bs2 23 _ _ rfl ?_))
      refine StopD.go ?_
      refine wpList_bsliceG2 rfl 23 1 _ rfl #[(0, .agg (txC t (.slice A1 N1 C1) (.slice B1 M1 D1)).toArray)] ?_ 42 (txC t (.slice A1 N1 C1) (.slice B1 M1 D1)) (fun w => bs_rtx HTO.out A1 B1 N1 C1 M1 D1 w) ?_
      · simp [Act.eval, Act.put]
      intro q8 w8 hq8 hb8 hbn
      have HB8 := Lib.hid (below_then HB5.out hbn); have HJ8 := Lib.hid (own_keep HJ5.out hbn); have HK8 := Lib.hid (HK5.out.later hbn); have HC8 := Lib.hid hb8
      clear hq8 hb8 hbn h58 h59 h5a h5b h5c hv17
      go_wp2_with (at_builtin; refine stop_here2 ?_)
      refine StopD.go ?_
      refine wpList_app _ rfl (.tmp 21) (.tmp 35) 23 rfl w1.heap.size 42 i0 (.agg zTx.toArray) 13 80 Tryd.underlying23 hi hi0 hi1 hi2 rfl (by decide) _ _ _ rfl HJ8.out _ _ _ _ _ rfl (Sl.of_own (HC8.out.own (base := 0) (size := 13) (cap := 1) (n := 1) (Nat.zero_le _) (Nat.le_refl _) (by omega) (by rw [txC_len HTO.out]) (by rw [List.take_of_length_le (by rw [txC_len HTO.out]; exact Nat.le_refl _)]))) txC_one (by unfold maxLen; omega) (by omega) HB8.out.size ?_
      intro v9 w9 hown hgr hat
      have hne := own_bk_ne HJ8.out HK8.out (by decide)
      have HB9 := Lib.hid (grown_below HB8.out HJ8.out hgr (Nat.le_refl _) HB8.out.size)
      have HK9 := Lib.hid (HK8.out.grown hgr (Ne.symm hne))
      have hown : w9.ownsRow w1.heap.size 42 13 v9 (k + 1) ((xs.map (·.1)).take (k + 1)).flatten := by rw [HFS.out]; exact hown
      obtain ⟨A9, c9, rfl⟩ := own_form hown
      have HJ9 := Lib.hid hown
      clear hown hgr hat hne
      go_wp2_with (with_reducible refine stop_store 23 _ _ rfl ?_)
      refine StopD.go ?_
      refine wpList_store_part rfl 23 _ _ rfl g 17 (.slice A9 (k + 1) c9) [.slice A9 (k + 1) c9] rfl rfl rfl 25 (dl p ++ .int .i64 h :: dl m) [.slice A0 k c0] [] (by have := HK9.out; simpa [bkC] using this) (by simp [dl_len, HPO.out.len, HMO.out.len]) rfl (by kernel_rfl) (by intro x hx; simp at hx; subst hx; rfl) ?_
      intro w10 hp
      have HKa : Hid (Bk w10 g 25 (bkC p h m (.slice A9 (k + 1) c9))) := by show Bk _ _ _ _; have := hp.bk; simpa [bkC] using this
      have HJa := Lib.hid (own_only HJ9.out hp.only (own_bk_ne HJ9.out HK9.out (by decide)))
      have HBa := Lib.hid (below_only HB9.out hp.only HB9.out.size (Nat.le_of_eq HGG.out))
      clear hp HJ9 HK9 HB9
      go_wp2_with fail
      go_roundw
      case rel => exact ⟨k + 1, _, hlt, by go_num, HJa, HKa, HBa⟩
      case measure => simp [intOf]; omega
    · have hki : ¬ ((k : Int) < N) := by omega
      obtain rfl : k = N := by omega
      have HRr := Lib.hid (HRR.out.later HB.out)
      go_wp2_with (first
        | (with_reducible refine wpList_load_bk rfl 25 _ rfl g rfl (bkC p h m (.slice A0 k c0)) 25 HK.out _ Tryd.underlying25 rfl (HBS.out _) ?_)
        | (with_reducible refine stop_store 25 _ _ rfl ?_))
      refine StopD.go ?_
      refine wpList_store_part rfl 25 _ _ rfl (z + 1) 0 (.agg (bkC p h m (.slice A0 k c0)).toArray) (bkC p h m (.slice A0 k c0)) rfl rfl rfl 25 [] zBk [] (by have := HRr.out; simpa using this) rfl (by rw [bkC_len HPO.out HMO.out]; rfl) (HBS.out _) bkC_one ?_
      intro w3 hp
      have HR3 : Hid (Bk w3 (z + 1) 25 (bkC p h m (.slice A0 k c0))) := by show Bk _ _ _ _; have := hp.bk; simpa using this
      have hne : (Value.slice A0 k c0).ownBlock ≠ some (z + 1) := by
        intro e
        have h1 := (HJ.out.lt _ e).1
        have h2 := HS1.out
        omega
      have HJ3 := Lib.hid (own_only HJ.out hp.only hne)
      have HB3 := Lib.hid (below_only (below_then HBB1.out HB.out) hp.only (below_then HBB1.out HB.out).size (by have := HZ.out; omega))
      clear hp hne
      go_wp2_with fail
      refine bodyPost_ret (results_cell_bk rfl _ _ (z + 1) 25 (bkC p h m (.slice A0 k c0)) _ rfl HR3.out Tryd.underlying25 rfl (HBS.out _)) rfl ?_
      have hh := HJ3.out
      rw [List.take_of_length_le (by rw [List.length_map, HLN.out]; exact Nat.le_refl _)] at hh
      exact ⟨⟨_, rfl, own_base hh HBB1.out.size⟩, HB3.out⟩
theorem wrap_add (S a b : Int) : wrap64 (wrap64 S + wrap64 (a + b)) = wrap64 (S + (a + b)) := by
  unfold wrap64
  omega
set_option maxRecDepth 20000 in
set_option maxHeartbeats 8000000 in
theorem few_any (w : World) (p : List Int) (h : Int) (m : List Int) (hp : DgOk p) (hm : DgOk m) (A : Option Addr) (N C : Nat) (xs : List (List Value × TxT)) (hx : Txs w A N xs)
    (hl : ∀ x ∈ xs, x.2.b.length ≤ 140737488355328 ∧ x.2.s.length ≤ 140737488355328) :
    Calls Tryd.prog 9 #[.agg (bkC p h m (.slice A N C)).toArray] w fun e w' => e = .returned (.bool (fewT (xs.map (·.2)))) ∧ Below w.heap.size w w' := by
  obtain ⟨l, hl⟩ : ∃ x, bkC p h m (.slice A N C) = x := ⟨_, rfl⟩
  obtain ⟨X, hX⟩ : ∃ X, l.toArray = X := ⟨_, rfl⟩
  obtain ⟨z, hz⟩ : ∃ z, w.heap.size = z := ⟨_, rfl⟩
  obtain ⟨w1, hw1⟩ : ∃ w1, w.alloc (.cells X 25) = w1 := ⟨_, rfl⟩
  have hb1 : Below w.heap.size w w1 := hw1 ▸ below_new w _
  have kx : Bk w1 z 25 l := hw1 ▸ Bk.at_ w _ X hz (by rw [← hX])
  have hbm := bkc_mem hp hm (by rw [hl]; exact kx)
  have c8 := hbm.c8; have c17 := hbm.c17
  have HW := Lib.hid hw1; have HBB1 := Lib.hid hb1; have HZ := Lib.hid hz; have HK1 := Lib.hid kx; have HPO := Lib.hid hp; have HMO := Lib.hid hm; have HXE := Lib.hid hX; have HLE := Lib.hid hl
  have HXS := Lib.hid (hx.later hb1); have HLN := Lib.hid hx.length
  rw [hl, hX]
  clear hl hX hw1 hb1 kx hbm hz hp hm hx
  obtain ⟨L, hL⟩ : ∃ L, xs.map (·.2) = L := ⟨_, rfl⟩
  have hLN : L.length = N := by rw [← hL, List.length_map, HLN.out]
  have hLB : ∀ t ∈ L, t.b.length ≤ 140737488355328 ∧ t.s.length ≤ 140737488355328 := fun t ht => by
    rw [← hL] at ht
    obtain ⟨x, hx, rfl⟩ := List.mem_map.1 ht
    exact hl x hx
  rw [hL]
  have HL := Lib.hid hL; have HLL := Lib.hid hLN; have HLB := Lib.hid hLB
  have hNl : N ≤ 9223372036854775807 := HXS.out.sl.le
  clear hL hLN hLB hl
  go_enter Tryd.func9, Tryd.ntmps9
  go_upto_region 1 with fail
  rw [HW.out, HZ.out]
  go_wp2_with fail
  go_loopw [3, 5, 9] (fun nv _ kv wr => ∃ (k : Nat) (S : Int), k ≤ N ∧ kv = .int .i64 k ∧ nv = .int .i64 (wrap64 S) ∧ Hid (S = bytesS (L.take k)) ∧ Hid (Below w1.heap.size w1 wr)) (fun _ _ kv _ => N - (intOf kv).toNat)
  case atStart => exact ⟨0, 0, Nat.zero_le _, rfl, by rw [IntWalk.wrap64_in 0 (by omega)], rfl, Below.refl _ _⟩
  case round =>
    obtain ⟨k, S, hk, rfl, rfl, HS, HB⟩ := hrel
    by_cases hlt : k < N
    · have hki : (k : Int) < N := by omega
      have hk0 : (0 : Int) ≤ k := by omega
      obtain ⟨⟨cs, t⟩, hx⟩ : ∃ x, xs[k]? = some x := ⟨xs[k]'(by rw [HLN.out]; omega), List.getElem?_eq_getElem _⟩
      have hLk : L[k]? = some t := by rw [← HL.out, List.getElem?_map, hx]; rfl
      have hg : Txg wr cs t := (HXS.out.later HB.out).th (cs, t) (List.mem_of_getElem? hx)
      obtain ⟨b, o, rfl, hr, _⟩ := HXS.out.at_ HB.out hx
      have hr : wr.rangeAt b (o + k * 13) cs := hr
      have HG : Hid (Txg wr cs t) := hg
      obtain ⟨⟨A1, B1, N1, C1, M1, D1, rfl, s1, s2, _⟩, hok⟩ := hg
      have HR := Lib.hid hr; have HTO := Lib.hid hok.f
      have l1 := s1.length; have l2 := s2.length
      have HS1 : Hid (S + ((N1 : Int) + M1) = bytesS (L.take (k + 1))) := by
        show _ = _
        rw [take_snoc hLk, bytesS_snoc, ← HS.out, l1, l2]
      clear hr hx hok hLk l1 l2 s1 s2
      go_wp2_with (first
        | (with_reducible refine wpList_load_mid rfl 42 _ rfl b (o + k * 13) rfl (txC t (.slice A1 N1 C1) (.slice B1 M1 D1)) _ HR.out Tryd.underlying42 rfl HG.out.rsize ?_)
        | (with_reducible refine stop_store 42 _ _ rfl ?_))
      refine StopD.go ?_
      obtain ⟨g5, hg5⟩ : ∃ g, wr.heap.size = g := ⟨_, rfl⟩
      have hbn : Below wr.heap.size wr (wr.alloc (.cells #[.int .u8 0, .int .u8 0, .int .u8 0, .int .u8 0, .int .u8 0, .int .u8 0, .int .u8 0, .int .u8 0, .int .i64 0, .int .i64 0, .int .i64 0, .slice none 0 0, .slice none 0 0] 42)) := below_new wr _
      have kt : Bk (wr.alloc (.cells #[.int .u8 0, .int .u8 0, .int .u8 0, .int .u8 0, .int .u8 0, .int .u8 0, .int .u8 0, .int .u8 0, .int .i64 0, .int .i64 0, .int .i64 0, .slice none 0 0, .slice none 0 0] 42)) g5 42 ([] ++ (zTx ++ [])) := by rw [← hg5]; exact Bk.new' wr _ #[.int .u8 0, .int .u8 0, .int .u8 0, .int .u8 0, .int .u8 0, .int .u8 0, .int .u8 0, .int .u8 0, .int .i64 0, .int .i64 0, .int .i64 0, .slice none 0 0, .slice none 0 0] rfl
      rw [hg5]
      refine wpList_store_part rfl 42 _ _ rfl g5 0 (.agg (txC t (.slice A1 N1 C1) (.slice B1 M1 D1)).toArray) (txC t (.slice A1 N1 C1) (.slice B1 M1 D1)) rfl rfl rfl 42 [] zTx [] kt rfl (by rw [HG.out.len]; rfl) HG.out.rsize HG.out.one ?_
      intro w5 hp
      have hbn : Below wr.heap.size wr w5 := hbn.grown hp.only hbn.size (fun q hq => by injection hq with hq; omega)
      have HT5 : Hid (Bk w5 g5 42 (txC t (.slice A1 N1 C1) (.slice B1 M1 D1))) := by show Bk _ _ _ _; have := hp.bk; simpa using this
      clear hp kt hg5
      have HB5 := Lib.hid (below_then HB.out hbn)
      have hm5 := tx_mem HTO.out HT5.out
      have h5b := hm5.c11; have h5c := hm5.c12
      simp only [Nat.zero_add] at h5b h5c
      clear hbn hm5
      go_wp2_with fail
      go_roundw
      case rel => exact ⟨k + 1, S + ((N1 : Int) + M1), hlt, by go_num, by rw [← wrap_add], HS1, HB5⟩
      case measure => simp [intOf]; omega
    · have hki : ¬ ((k : Int) < N) := by omega
      obtain rfl : k = N := by omega
      have hc17 : wr.cell? ⟨z, 17, none⟩ = some (.slice A k C) := (HB.out.cell (p := ⟨z, 17, none⟩) HK1.out.lt).trans c17
      have hS : S = bytesS L := by have := HS.out; rwa [List.take_of_length_le (by rw [HLL.out]; exact Nat.le_refl _)] at this
      by_cases h66 : (k : Int) ≤ 66
      · have hb := bytesS_le L _ HLB.out
        have hp := bytesS_pos L
        rw [HLL.out] at hb
        have hwr : wrap64 S = S := IntWalk.wrap64_in _ (by omega)
        have HF : Hid (fewT L = decide (S ≤ 3000)) := by
          show _ = _
          unfold fewT
          rw [decide_eq_true (by rw [HLL.out]; omega), Bool.true_and, hS]
        rw [hwr]
        clear hb hp hwr hS HS
        go_wp2_with fail
        go_ret
        exact ⟨by rw [HF.out]; rfl, below_then HBB1.out HB.out⟩
      · have HF : Hid (fewT L = false) := by
          show _ = _
          unfold fewT
          rw [decide_eq_false (by rw [HLL.out]; omega), Bool.false_and]
        clear hS HS
        go_wp2_with fail
        go_ret
        exact ⟨by rw [HF.out]; rfl, below_then HBB1.out HB.out⟩
end Go.Proofs.YtbpmomedhdmloaaDoor
