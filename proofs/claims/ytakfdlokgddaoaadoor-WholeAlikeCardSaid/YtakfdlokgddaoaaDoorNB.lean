/- Rows of digests. How many signed. Whose signature is missing; have all signed? Have all signed? -/
import Derived.Test.YtakfdlokgddaoaaDoorHA
import Derived.Test.YtakfdlokgddaoaaDoorNA
/-! Rows of digests. -/
namespace Go.Proofs.YtakfdlokgddaoaaDoor
open Go.RowKit

def cellsD (ls : List (List Int)) : List Value := ls.flatMap fun d => d.map (Value.int .u8)
def DsOk (ls : List (List Int)) : Prop := ∀ d ∈ ls, DgOk d
theorem cellsD_len {ls : List (List Int)} (h : DsOk ls) : (cellsD ls).length = ls.length * 8 := by
  induction ls with
  | nil => rfl
  | cons d ls ih =>
    have := ih (fun x hx => h x (by simp [hx]))
    have hd := (h d (by simp)).len
    unfold cellsD at this ⊢
    rw [List.flatMap_cons, List.length_append, this, List.length_map, hd, List.length_cons]; omega
theorem cellsD_get {ls : List (List Int)} (h : DsOk ls) {k : Nat} {d : List Int} (hk : ls[k]? = some d) {j : Nat} (hj : j < 8) : (cellsD ls)[k * 8 + j]? = (d.map (Value.int .u8))[j]? := by
  induction ls generalizing k with
  | nil => simp at hk
  | cons x ls ih =>
    have hx := (h x (by simp)).len
    unfold cellsD at ih ⊢
    cases k with
    | zero =>
      simp at hk; subst hk
      rw [List.flatMap_cons, List.getElem?_append_left (by rw [List.length_map, hx]; omega)]; simp
    | succ k =>
      rw [List.flatMap_cons, List.getElem?_append_right (by rw [List.length_map, hx]; omega), List.length_map, hx, show (k + 1) * 8 + j - 8 = k * 8 + j by omega]
      exact ih (fun y hy => h y (by simp [hy])) (by simpa using hk)
theorem Sl.dgs {w : World} {B n : Nat} {A : Option Addr} {ls : List (List Int)} (h : Sl w B 8 A n (cellsD ls)) (ho : DsOk ls) : ls.length = n := by
  have := h.len; rw [cellsD_len ho] at this; omega
theorem sl_dg {w : World} {B n b o : Nat} {ls : List (List Int)} (h : Sl w B 8 (some ⟨b, o, none⟩) n (cellsD ls)) (ho : DsOk ls) {k : Nat} {d : List Int} (hk : ls[k]? = some d) : w.rangeAt b (o + k * 8) (d.map (.int .u8)) := by
  intro j v hv
  have hkn : k < n := by rw [← h.dgs ho]; exact (List.getElem?_eq_some_iff.1 hk).1
  obtain ⟨ad, e, _, hc⟩ := h.mem (by omega)
  injection e with e; subst e
  have hj : j < 8 := by
    have := (List.getElem?_eq_some_iff.1 hv).1
    rw [List.length_map, (ho d (List.mem_of_getElem? hk)).len] at this; exact this
  have := hc (k * 8 + j) v (by rw [cellsD_get ho hk hj]; exact hv)
  rw [add_plain, ← Nat.add_assoc] at this
  exact this
end Go.Proofs.YtakfdlokgddaoaaDoor

/-! How many signed. -/
namespace Go.Proofs.YtakfdlokgddaoaaDoor
open Go.RowKit Go.Maps

theorem sl_dgl {w : World} {B n b o : Nat} {ls : List (List Int)} (h : Sl w B 8 (some ⟨b, o, none⟩) n (cellsD ls)) (ho : DsOk ls) {k : Nat} {d : List Int} (hk : ls[k]? = some d) : w.rangeAt b (o + k * 8) (dl d) := sl_dg h ho hk
def PcsBy (ps : List Pc) : Prop := ∀ p ∈ ps, ByOk p.bs
/-- How many of the keys signed. -/
def cntB (es : List Ent) (m : List Int) : List (List Int) → List Pc → Nat
  | k :: ks, p :: ps => cntB es m ks ps + (if verB es (k, m) p.bs then 1 else 0)
  | _, _ => 0
theorem cntB_le (es : List Ent) (m : List Int) : ∀ ks ps, cntB es m ks ps ≤ ks.length
  | [], _ => by simp [cntB]
  | k :: ks, [] => by simp [cntB]
  | k :: ks, p :: ps => by have := cntB_le es m ks ps; simp only [cntB, List.length_cons]; split <;> omega
theorem cntB_nil (es : List Ent) (m : List Int) (ks : List (List Int)) : cntB es m ks [] = 0 := by cases ks <;> rfl

/-- What the call through the interface comes to. -/
theorem nil_book (g : Nat) (f : Nat) (w : World) : (nilAhead (f + 1) 49 (.pointer (some ⟨g, 0, none⟩)) "Verify").run Tryd.prog w = .ok (some false) w := by kernel_rfl
theorem meth_book (g : Nat) (f : Nat) (w : World) : (method (f + 1) 49 (.pointer (some ⟨g, 0, none⟩)) "Verify").run Tryd.prog w = .ok (21, .pointer (some ⟨g, 0, none⟩)) w := by kernel_rfl
end Go.Proofs.YtakfdlokgddaoaaDoor

/-! Whose signature is missing; have all signed? -/
namespace Go.Proofs.YtakfdlokgddaoaaDoor
open Go.RowKit Go.Maps

theorem bclone_any (w : World) (A : Option Addr) (n c : Nat) (bs : List Int) (hs : Sl w w.heap.size 1 A n (bs.map (.int .u8))) (hn4 : n ≤ 4294967296) :
    Calls Tryd.prog 44 #[.slice A n c] w (RetB w.heap.size bs w) := by
  have hnil : ∀ (w : World) (a : Option Addr) (n c n' c' : Nat), (binOp .eql 29 (.slice a n c) (.slice none n' c')).run Tryd.prog w = .ok (.bool a.isNone) w := fun w a n c n' c' => Lib.run_eql_slice_nil w _ _ a n c n' c' Tryd.underlying29
  have hlen := hs.length
  cases A with
  | none =>
    have hn0 : n = 0 := by
      rcases Nat.eq_zero_or_pos n with h | h
      · exact h
      · obtain ⟨_, e, _⟩ := hs.mem h; cases e
    subst hn0
    obtain rfl : bs = [] := List.eq_nil_of_length_eq_zero hlen
    clear hs hlen
    go_enter Tryd.func44, Tryd.ntmps44
    go_wp2_with fail
    go_ret
    exact ⟨_, rfl, World.ownsRow_nil _ _ _ _, Below.refl _ _⟩
  | some ad =>
    obtain ⟨i0, hi, hi0, hi1, hi2⟩ := info_parts Tryd.infoU8
    have HS := Lib.hid hs; have HL := Lib.hid hlen
    clear hs hlen
    go_enter Tryd.func44, Tryd.ntmps44
    go_wp2_with (at_builtin; refine wpList_app _ rfl (.tmp 5) (.tmp 6) 29 rfl w.heap.size 5 i0 (.int .u8 0) 1 1 Tryd.underlying29 hi hi0 hi1 hi2 rfl (by decide) _ _ _ rfl (own_empty w 5 1 w.heap.size (Nat.le_refl _)) _ _ n c (bs.map (.int .u8)) rfl (HS.out.alloc (Nat.le_refl _) _) (ints_one _ _) (by unfold maxLen; omega) (by omega) (by simp) ?_; intro v1 w3 hown1 hg1 hat1)
    rw [Nat.zero_add, List.nil_append] at hown1
    have hb3 := grown_below (below_new w (.cells #[] 5)) (own_empty w 5 1 w.heap.size (Nat.le_refl _)) hg1 (Nat.le_refl _) (by simp)
    have HO := Lib.hid hown1; have HB := Lib.hid hb3
    clear hown1 hg1 hat1 hb3
    go_wp2_with fail
    go_ret
    exact ⟨_, rfl, by rw [HL.out]; exact HO.out, HB.out⟩

/-- Is it missing? -/
def badB (es : List Ent) (m : List Int) (ks : List (List Int)) (ps : List Pc) (fs : List Bool) (i : Nat) : Bool :=
  !(fs.getD i false) && !(verB es (ks.getD i [], m) ((ps.map Pc.bs).getD i []))
def missB (es : List Ent) (m : List Int) (ks : List (List Int)) (ps : List Pc) (fs : List Bool) (n : Nat) : List Nat := (List.range n).filter (badB es m ks ps fs)
theorem missB_succ (es : List Ent) (m : List Int) (ks : List (List Int)) (ps : List Pc) (fs : List Bool) (n : Nat) :
    missB es m ks ps fs (n + 1) = missB es m ks ps fs n ++ (if badB es m ks ps fs n then [n] else []) := by
  unfold missB; rw [List.range_succ, List.filter_append]; simp only [List.filter_cons, List.filter_nil]
theorem missB_le (es : List Ent) (m : List Int) (ks : List (List Int)) (ps : List Pc) (fs : List Bool) (n : Nat) : (missB es m ks ps fs n).length ≤ n := by
  unfold missB; have := List.length_filter_le (badB es m ks ps fs) (List.range n); simpa using this
theorem badB_free {es : List Ent} {m : List Int} {ks : List (List Int)} {ps : List Pc} {fs : List Bool} {i : Nat} (h : fs.getD i false = true) : badB es m ks ps fs i = false := by unfold badB; rw [h]; rfl
theorem badB_not {es : List Ent} {m : List Int} {ks : List (List Int)} {ps : List Pc} {fs : List Bool} {i : Nat} {x : List Int} {p : Pc} (h : fs.getD i false = false) (hx : ks[i]? = some x) (hp : ps[i]? = some p) : badB es m ks ps fs i = !(verB es (x, m) p.bs) := by
  unfold badB; rw [h, List.getD_eq_getElem?_getD, List.getD_eq_getElem?_getD, hx, List.getElem?_map, hp]; rfl
theorem Tryd.infoInt : (Tryd.prog.info? 3).map (fun i => (i.zero, i.size, i.bytes)) = some (some (.int .i64 0), 1, 8) := by kernel_rfl

set_option maxRecDepth 20000 in
set_option maxHeartbeats 8000000 in
theorem missing_any (w : World) (lo g : Nat) (es : List Ent) (hbk : BookAt w lo g es) (hl : es.length ≤ 65536) (Ak : Option Addr) (n ck : Nat) (ks : List (List Int)) (hk : Sl w w.heap.size 8 Ak n (cellsD ks)) (hko : DsOk ks) (hn : n ≤ 1000000)
    (m : List Int) (hm : DgOk m) (As : Option Addr) (C : Nat) (ps : List Pc) (hs : Sl w w.heap.size 1 As n (ps.map Pc.v)) (hps : PcsOk w ps) (hpb : PcsBy ps) (hpn : ∀ p ∈ ps, p.n ≤ 4294967296)
    (Af : Option Addr) (F CF : Nat) (fs : List Bool) (hf : Sl w w.heap.size 1 Af F (fs.map .bool)) :
    Calls Tryd.prog 22 #[.iface 49 (.pointer (some ⟨g, 0, none⟩)), .slice Ak n ck, .agg (dl m).toArray, .slice As n C, .slice Af F CF] w fun e w' =>
      (∃ v, e = .returned v ∧ w'.ownsRow w.heap.size 3 1 v (missB es m ks ps fs n).length ((missB es m ks ps fs n).map fun i : Nat => .int .i64 (i : Int))) ∧ Below w.heap.size w w' := by
  obtain ⟨Y, hY⟩ : ∃ Y, (dl m).toArray = Y := ⟨_, rfl⟩
  obtain ⟨w1, hw1⟩ : ∃ w1, w.alloc (.cells Y 23) = w1 := ⟨_, rfl⟩
  have hb1 : Below w.heap.size w w1 := hw1 ▸ below_new w _
  have ky : Bk w1 w.heap.size 23 (dl m) := hw1 ▸ Bk.new' w _ Y (by rw [← hY])
  have HW := Lib.hid hw1; have HB1 := Lib.hid hb1; have HY := Lib.hid ky; have HDM := Lib.hid (hdg_size m hm); have HM := Lib.hid hm
  have HBK := Lib.hid (hbk.later hb1); have HKS := Lib.hid (hk.later hb1); have HKO := Lib.hid hko; have HKL := Lib.hid (hk.dgs hko); have HS := Lib.hid (hs.later hb1); have HPS := Lib.hid (hps.later hb1); have HPB := Lib.hid hpb; have HSL := Lib.hid hs.length; have HPN := Lib.hid hpn
  have HF := Lib.hid (hf.later hb1); have HFL := Lib.hid hf.length
  have HB01 : Hid (w.heap.size ≤ w1.heap.size) := hb1.size
  obtain ⟨i0, hi, hi0, hi1, hi2⟩ := info_parts Tryd.infoInt
  rw [hY]
  clear hY hw1 hb1 ky hbk hk hko hs hps hpb hm hpn hf
  go_enter Tryd.func22, Tryd.ntmps22
  go_upto_region 1 with fail
  rw [HW.out]
  go_wp2_with fail
  go_loopw [11, 16] (fun ov iv wr => ∃ (k L : Nat), k ≤ n ∧ iv = .int .i64 k ∧ Hid (L = (missB es m ks ps fs k).length) ∧ Hid (wr.ownsRow w1.heap.size 3 1 ov L ((missB es m ks ps fs k).map fun i : Nat => .int .i64 (i : Int))) ∧ Hid (Below w1.heap.size w1 wr)) (fun _ iv _ => n - (intOf iv).toNat)
  case atStart => exact ⟨0, 0, Nat.zero_le _, rfl, rfl, World.ownsRow_nil _ _ _ _, Below.refl _ _⟩
  case round =>
    obtain ⟨k, L, hk, rfl, HLL, HO, HB⟩ := hrel
    have hL0 : L ≤ k := by rw [HLL.out]; exact missB_le _ _ _ _ _ _
    by_cases hlt : k < n
    · obtain ⟨b, o, rfl, hbb, _⟩ := HKS.out.spot (by omega) (by omega)
      obtain ⟨x, hx⟩ : ∃ x, ks[k]? = some x := ⟨ks[k]'(by rw [HKL.out]; exact hlt), List.getElem?_eq_getElem _⟩
      have hxo := HKO.out x (List.mem_of_getElem? hx)
      have HR := Lib.hid (sl_dgl (HKS.out.below HB.out) HKO.out hx)
      have HD := Lib.hid (hdg_size x hxo)
      have HX := Lib.hid hx; have HXO := Lib.hid hxo
      have hm1 : (k : Int) < n := by omega
      have hm0 : (0 : Int) ≤ k := by omega
      clear hx hxo
      go_wp2_with (first
        | (with_reducible refine wpList_load_mid rfl 23 _ rfl b (o + k * 8) rfl (dl x) _ HR.out Tryd.underlying23 rfl HD.out ?_)
        | (with_reducible refine stop_store 23 _ _ rfl ?_))
      refine StopD.go ?_
      obtain ⟨q, hq⟩ : ∃ q, wr.heap.size = q := ⟨_, rfl⟩
      have hbn : Below wr.heap.size wr (wr.alloc (.cells #[.int .u8 0, .int .u8 0, .int .u8 0, .int .u8 0, .int .u8 0, .int .u8 0, .int .u8 0, .int .u8 0] 23)) := below_new wr _
      have kt : Bk (wr.alloc (.cells #[.int .u8 0, .int .u8 0, .int .u8 0, .int .u8 0, .int .u8 0, .int .u8 0, .int .u8 0, .int .u8 0] 23)) q 23 ([] ++ (dl zeroD ++ [])) := by rw [← hq]; exact Bk.new' wr _ #[.int .u8 0, .int .u8 0, .int .u8 0, .int .u8 0, .int .u8 0, .int .u8 0, .int .u8 0, .int .u8 0] rfl
      have hqw : w1.heap.size ≤ q := by rw [← hq]; exact HB.out.size
      rw [hq]
      refine wpList_store_part rfl 23 _ _ rfl q 0 (.agg (dl x).toArray) (dl x) rfl rfl rfl 23 [] (dl zeroD) [] kt rfl (by rw [dl_len, dl_len, HXO.out.len]; rfl) HD.out (dl_one' x) ?_
      intro w5 hp5
      have HX5 : Hid (Bk w5 q 23 (dl x)) := by show Bk _ _ _ _; have := hp5.bk; simpa using this
      have hbn5 : Below wr.heap.size wr w5 := hbn.grown hp5.only hbn.size (fun j hj => by injection hj with hj; omega)
      have HB5 := Lib.hid (HB.out.trans (hbn5.mono HB.out.size)); have HO5 := Lib.hid (own_keep HO.out hbn5)
      clear hp5 kt hq hbn hbn5
      have HY5 := Lib.hid (HY.out.later HB5.out)
      obtain ⟨p, hp⟩ : ∃ p, ps[k]? = some p := ⟨ps[k]'(by rw [HSL.out]; exact hlt), List.getElem?_eq_getElem _⟩
      have HP := Lib.hid hp
      clear hp
      by_cases hfr : fs.getD k false = true
      · have hkF : k < F := by
          rcases Nat.lt_or_ge k F with h | h
          · exact h
          · rw [List.getD_eq_getElem?_getD, List.getElem?_eq_none (by rw [HFL.out]; exact h)] at hfr; cases hfr
        obtain ⟨b3, o3, rfl, _, hcc⟩ := (HF.out.below HB5.out).spot (by omega) (by omega)
        have hcf : w5.cell? ⟨b3, o3 + k, none⟩ = some (.bool true) := hcc k _ (by
          rw [List.getElem?_map, List.getElem?_eq_getElem (by rw [HFL.out]; exact hkF)]
          rw [List.getD_eq_getElem?_getD, List.getElem?_eq_getElem (by rw [HFL.out]; exact hkF)] at hfr
          simpa using hfr)
        have HBD := Lib.hid (badB_free (es := es) (m := m) (ks := ks) (ps := ps) hfr)
        have hk1 : (k : Int) < F := by omega
        have hk2 : decide ((k : Int) < F) = true := by simp; omega
        have HO' : Hid (w5.ownsRow w1.heap.size 3 1 u11 L ((missB es m ks ps fs (k + 1)).map fun i : Nat => .int .i64 (i : Int))) := by show World.ownsRow _ _ _ _ _ _ _; rw [missB_succ, HBD.out]; simpa using HO5.out
        have HLL' : Hid (L = (missB es m ks ps fs (k + 1)).length) := by show _ = _; rw [missB_succ, HBD.out]; simpa using HLL.out
        clear hcc hfr
        go_wp2_with fail
        go_roundw
        case rel => exact ⟨k + 1, L, by omega, by go_num, HLL', HO', HB5⟩
        case measure => simp [intOf]; omega
      · have hfr : fs.getD k false = false := by simpa using hfr
        have HBD := Lib.hid (badB_not (es := es) (m := m) hfr HX.out HP.out)
        obtain ⟨b2, o2, rfl, _, hcc⟩ := (HS.out.below HB5.out).spot (by omega) (by omega)
        have HCS := Lib.hid (hcc k p.v (by rw [List.getElem?_map, HP.out]; rfl))
        have HPP := Lib.hid (((HPS.out p (List.mem_of_getElem? HP.out)).later HB5.out)); have HPO := Lib.hid (HPB.out p (List.mem_of_getElem? HP.out)); have hpn4 := HPN.out p (List.mem_of_getElem? HP.out)
        have hNk : ¬ ((n : Int) ≤ k) := by omega
        have hNk1 : decide ((n : Int) ≤ k) = false := by simp; omega
        have hNk2 : decide (n ≤ k) = false := by simp; omega
        clear hcc
        by_cases hkF : k < F
        · obtain ⟨b3, o3, rfl, _, hcc⟩ := (HF.out.below HB5.out).spot (by omega) (by omega)
          have hcf : w5.cell? ⟨b3, o3 + k, none⟩ = some (.bool false) := hcc k _ (by
            rw [List.getElem?_map, List.getElem?_eq_getElem (by rw [HFL.out]; exact hkF)]
            rw [List.getD_eq_getElem?_getD, List.getElem?_eq_getElem (by rw [HFL.out]; exact hkF)] at hfr
            simpa using hfr)
          have hk1 : (k : Int) < F := by omega
          have hk2 : decide ((k : Int) < F) = true := by simp; omega
          clear hcc hfr
          go_wp2_with fail
          refine wp_region_held_drew (S := fun w' => Bk w' q 23 (dl x) ∧ Bk w' w.heap.size 23 (dl m) ∧ w'.cell? ⟨b2, o2 + k, none⟩ = some (.slice p.A p.n p.c)) (by kernel_rfl) ⟨Bk.drew HX5.out, Bk.drew HY5.out, HCS.out⟩ (fun hHeld => ?_)
          refine wpAnyH_take (i := 0) (v := ?_) rfl (by kernel_rfl) (by kernel_rfl) (by kernel_rfl) (fun _ _ _ h => h) (Or.inl ⟨by rfl, ?_⟩) (by assumption) ?_
          rotate_left
          · intro w hSw
            (try dsimp only at hSw)
            go_simp
            try with_reducible rfl
          try simp only [Act.put, List.setIfInBounds_toArray, List.set_cons_zero, List.set_cons_succ, List.getElem_toArray, List.getElem_cons_zero]
          refine wpAnyH_take (i := 1) (v := ?_) rfl (by kernel_rfl) (by kernel_rfl) (by kernel_rfl) (fun _ _ _ h => h) (Or.inl ⟨by rfl, ?_⟩) (by assumption) ?_
          rotate_left
          · intro w hSw
            (try dsimp only at hSw)
            go_simp
            try with_reducible rfl
          try simp only [Act.put, List.setIfInBounds_toArray, List.set_cons_zero, List.set_cons_succ, List.getElem_toArray, List.getElem_cons_zero, List.getElem_cons_succ]
          refine wpAnyH_take (i := 2) (v := ?_) rfl (by kernel_rfl) (by kernel_rfl) (by kernel_rfl) (fun _ _ _ h => h) (Or.inl ⟨by rfl, ?_⟩) (by assumption) ?_
          rotate_left
          · intro w hSw
            (try dsimp only at hSw)
            go_simp
            try with_reducible rfl
          try simp only [Act.put, List.setIfInBounds_toArray, List.set_cons_zero, List.set_cons_succ, List.getElem_toArray, List.getElem_cons_zero, List.getElem_cons_succ]
          refine wpAnyH_take (i := 3) (v := ?_) rfl (by kernel_rfl) (by kernel_rfl) (by kernel_rfl) (fun _ _ _ h => h) (Or.inl ⟨by rfl, ?_⟩) (by assumption) ?_
          rotate_left
          · intro w hSw
            (try dsimp only at hSw)
            go_simp
            try with_reducible rfl
          try simp only [Act.put, List.setIfInBounds_toArray, List.set_cons_zero, List.set_cons_succ, List.getElem_toArray, List.getElem_cons_zero, List.getElem_cons_succ]
          refine wpAnyH_take (i := 4) (v := ?_) rfl (by kernel_rfl) (by kernel_rfl) (by kernel_rfl) (fun _ _ _ h => h) (Or.inl ⟨by rfl, ?_⟩) (by assumption) ?_
          rotate_left
          · intro w hSw
            (try dsimp only at hSw)
            go_simp
            try with_reducible rfl
          try simp only [Act.put, List.setIfInBounds_toArray, List.set_cons_zero, List.set_cons_succ, List.getElem_toArray, List.getElem_cons_zero, List.getElem_cons_succ]
          refine wpAnyH_take (i := 5) (v := ?_) rfl (by kernel_rfl) (by kernel_rfl) (by kernel_rfl) (fun _ _ _ h => h) (Or.inl ⟨by rfl, ?_⟩) (by assumption) ?_
          rotate_left
          · intro w hSw
            (try dsimp only at hSw)
            go_simp
            try with_reducible rfl
          try simp only [Act.put, List.setIfInBounds_toArray, List.set_cons_zero, List.set_cons_succ, List.getElem_toArray, List.getElem_cons_zero, List.getElem_cons_succ]
          refine wpAnyH_take (i := 6) (v := ?_) rfl (by kernel_rfl) (by kernel_rfl) (by kernel_rfl) (fun _ _ _ h => h) (Or.inl ⟨by rfl, ?_⟩) (by assumption) ?_
          rotate_left
          · intro w hSw
            (try dsimp only at hSw)
            go_simp
            try with_reducible rfl
          try simp only [Act.put, List.setIfInBounds_toArray, List.set_cons_zero, List.set_cons_succ, List.getElem_toArray, List.getElem_cons_zero, List.getElem_cons_succ]
          refine wpAnyH_take (i := 7) (v := ?_) rfl (by kernel_rfl) (by kernel_rfl) (by kernel_rfl) (fun _ _ _ h => h) (Or.inl ⟨by rfl, ?_⟩) (by assumption) ?_
          rotate_left
          · intro w hSw
            (try dsimp only at hSw)
            go_simp
            try with_reducible rfl
          try simp only [Act.put, List.setIfInBounds_toArray, List.set_cons_zero, List.set_cons_succ, List.getElem_toArray, List.getElem_cons_zero, List.getElem_cons_succ]
          refine wpAnyH_take (i := 8) (v := ?_) rfl (by kernel_rfl) (by kernel_rfl) (by kernel_rfl) (fun _ _ _ h => h) (Or.inl ⟨by rfl, ?_⟩) (by assumption) ?_
          rotate_left
          · intro w hSw
            (try dsimp only at hSw)
            go_simp
            try with_reducible rfl
          try simp only [Act.put, List.setIfInBounds_toArray, List.set_cons_zero, List.set_cons_succ, List.getElem_toArray, List.getElem_cons_zero, List.getElem_cons_succ]
          refine wpAnyH_take (i := 9) (v := ?_) rfl (by kernel_rfl) (by kernel_rfl) (by kernel_rfl) (fun _ _ _ h => h) (Or.inl ⟨by rfl, ?_⟩) (by assumption) ?_
          rotate_left
          · intro w hSw
            (try dsimp only at hSw)
            go_simp
            try with_reducible rfl
          try simp only [Act.put, List.setIfInBounds_toArray, List.set_cons_zero, List.set_cons_succ, List.getElem_toArray, List.getElem_cons_zero, List.getElem_cons_succ]
          refine wpAnyH_take (i := 10) (v := .agg (List.toArray (dl x))) rfl (by kernel_rfl) (by kernel_rfl) (by kernel_rfl) (fun _ _ _ h => h) (yieldsIf_load_mid (by rfl) _ _ rfl _ _ rfl (dl x) _ (fun w hSw => (Bk.range (pre := []) (post := []) (by simpa using hSw.1) rfl)) Tryd.underlying23 rfl (HD.out)) (by assumption) ?_
          try simp only [Act.put, List.setIfInBounds_toArray, List.set_cons_zero, List.set_cons_succ, List.getElem_toArray, List.getElem_cons_zero, List.getElem_cons_succ]
          refine wpAnyH_take (i := 11) (v := .agg (List.toArray (dl m))) rfl (by kernel_rfl) (by kernel_rfl) (by kernel_rfl) (fun _ _ _ h => h) (yieldsIf_load_mid (by rfl) _ _ rfl _ _ rfl (dl m) _ (fun w hSw => (Bk.range (pre := []) (post := []) (by simpa using hSw.2.1) rfl)) Tryd.underlying23 rfl (HDM.out)) (by assumption) ?_
          try simp only [Act.put, List.setIfInBounds_toArray, List.set_cons_zero, List.set_cons_succ, List.getElem_toArray, List.getElem_cons_zero, List.getElem_cons_succ]
          refine wpAnyH_take (i := 12) (v := ?_) rfl (by kernel_rfl) (by kernel_rfl) (by kernel_rfl) (fun _ _ _ h => h) (Or.inl ⟨by rfl, ?_⟩) (by assumption) ?_
          rotate_left
          · intro w hSw
            (try dsimp only at hSw)
            go_simp
            try with_reducible rfl
          try simp only [Act.put, List.setIfInBounds_toArray, List.set_cons_zero, List.set_cons_succ, List.getElem_toArray, List.getElem_cons_zero, List.getElem_cons_succ]
          refine wpAnyH_take (i := 13) (v := ?_) rfl (by kernel_rfl) (by kernel_rfl) (by kernel_rfl) (fun _ _ _ h => h) (Or.inl ⟨by rfl, ?_⟩) (by assumption) ?_
          rotate_left
          · intro w hSw
            (try dsimp only at hSw)
            go_simp
            try with_reducible rfl
          try simp only [Act.put, List.setIfInBounds_toArray, List.set_cons_zero, List.set_cons_succ, List.getElem_toArray, List.getElem_cons_zero, List.getElem_cons_succ]
          refine wpAnyH_take (i := 14) (v := ?_) rfl (by kernel_rfl) (by kernel_rfl) (by kernel_rfl) (fun _ _ _ h => h) (Or.inl ⟨by rfl, ?_⟩) (by assumption) ?_
          rotate_left
          · intro w hSw
            (try dsimp only at hSw)
            go_simp
            try with_reducible rfl
          try simp only [Act.put, List.setIfInBounds_toArray, List.set_cons_zero, List.set_cons_succ, List.getElem_toArray, List.getElem_cons_zero, List.getElem_cons_succ]
          refine wpAnyH_take (i := 15) (v := ?_) rfl (by kernel_rfl) (by kernel_rfl) (by kernel_rfl) (fun _ _ _ h => h) (Or.inl ⟨by rfl, ?_⟩) (by assumption) ?_
          rotate_left
          · intro w hSw
            have hcell := hSw.2.2
            clear hSw
            go_simp
            try with_reducible rfl
          try simp only [Act.put, List.setIfInBounds_toArray, List.set_cons_zero, List.set_cons_succ, List.getElem_toArray, List.getElem_cons_zero, List.getElem_cons_succ]
          refine wpAnyH_take (i := 17) (v := ?_) rfl (by kernel_rfl) (by kernel_rfl) (by kernel_rfl) (fun _ _ _ h => h) (Or.inl ⟨by rfl, ?_⟩) (by assumption) ?_
          rotate_left
          · intro w hSw
            (try dsimp only at hSw)
            go_simp
            try with_reducible rfl
          try simp only [Act.put, List.setIfInBounds_toArray, List.set_cons_zero, List.set_cons_succ, List.getElem_toArray, List.getElem_cons_zero, List.getElem_cons_succ]
          refine wpAnyH_take (i := 18) (v := ?_) rfl (by kernel_rfl) (by kernel_rfl) (by kernel_rfl) (fun _ _ _ h => h) (Or.inl ⟨by rfl, ?_⟩) (by assumption) ?_
          rotate_left
          · intro w hSw
            have hcell := nil_book g
            clear hSw
            go_simp
            try with_reducible rfl
          try simp only [Act.put, List.setIfInBounds_toArray, List.set_cons_zero, List.set_cons_succ, List.getElem_toArray, List.getElem_cons_zero, List.getElem_cons_succ]
          refine wpAnyH_take (i := 19) (v := ?_) rfl (by kernel_rfl) (by kernel_rfl) (by kernel_rfl) (fun _ _ _ h => h) (Or.inl ⟨by rfl, ?_⟩) (by assumption) ?_
          rotate_left
          · intro w hSw
            (try dsimp only at hSw)
            go_simp
            try with_reducible rfl
          try simp only [Act.put, List.setIfInBounds_toArray, List.set_cons_zero, List.set_cons_succ, List.getElem_toArray, List.getElem_cons_zero, List.getElem_cons_succ]
          refine wpAnyH_ready (rs := [16]) (by kernel_rfl) (by simp) ?_
          refine AllReadyH.cons rfl (fun K hK => ?_) AllReadyH.nil
          go_simp
          (go_at_call 44; refine (bclone_any w5.drew p.A p.n p.c p.bs HPP.out.drew hpn4).mono ?_; rintro e w6 ⟨v6, rfl, hown⟩; have hb6 : Below w5.heap.size w5 w6 := (below_draws w5 w5.heap.size 1).trans hown.2; obtain ⟨A6, c6, rfl, hsl, _, _⟩ := own_facts hown; have HS6 := Lib.hid hsl; have HB6 := Lib.hid (HB5.out.trans (hb6.mono HB5.out.size)); have HO6 := Lib.hid (own_keep HO5.out hb6); have HX6 := Lib.hid (HX5.out.later hb6); have HY6 := Lib.hid (HY5.out.later hb6); have HC6 := Lib.hid ((hb6.cell (p := ⟨b2, o2 + k, none⟩) (World.block_lt_of_cell? w5 _ HCS.out)).trans HCS.out); clear hown hb6 hsl)
          refine hK.out _ _ (⟨HX6.out, HY6.out, HC6.out⟩) (fun hHeld => ?_)
          clear hK K
          try simp only [Act.put, List.setIfInBounds_toArray, List.set_cons_zero, List.set_cons_succ, List.getElem_toArray, List.getElem_cons_zero, List.getElem_cons_succ]
          obtain ⟨vb, hvb⟩ : ∃ vb, verB es (x, m) p.bs = vb := ⟨_, rfl⟩
          have HVB := Lib.hid hvb
          rw [hvb] at HBD
          clear hvb
          have hmt := meth_book g
          refine wpAnyH_ready (rs := [20]) (by kernel_rfl) (by simp) ?_
          refine AllReadyH.cons rfl (fun K hK => ?_) AllReadyH.nil
          go_simp
          (refine (verify_any w6 lo g es (HBK.out.later HB6.out) x m HXO.out HM.out hl A6 _ c6 p.bs HS6.out HPO.out).mono ?_; rw [HVB.out]; rintro e w7 ⟨rfl, hb7⟩; have HB7 := Lib.hid (HB6.out.trans (hb7.mono HB6.out.size)); have HO7 := Lib.hid (own_keep HO6.out hb7); have hS7 := And.intro (HX6.out.later hb7) (And.intro (HY6.out.later hb7) ((hb7.cell (p := ⟨b2, o2 + k, none⟩) (World.block_lt_of_cell? w6 _ HC6.out)).trans HC6.out)); clear hb7)
          refine hK.out _ _ (hS7) (fun hHeld => ?_)
          clear hK K
          try simp only [Act.put, List.setIfInBounds_toArray, List.set_cons_zero, List.set_cons_succ, List.getElem_toArray, List.getElem_cons_zero, List.getElem_cons_succ]
          refine wpAnyH_take (i := 21) (v := ?_) rfl (by kernel_rfl) (by kernel_rfl) (by kernel_rfl) (fun _ _ _ h => h) (Or.inl ⟨by rfl, ?_⟩) (by assumption) ?_
          rotate_left
          · intro w hSw
            (try dsimp only at hSw)
            go_simp
            try with_reducible rfl
          try simp only [Act.put, List.setIfInBounds_toArray, List.set_cons_zero, List.set_cons_succ, List.getElem_toArray, List.getElem_cons_zero, List.getElem_cons_succ]
          refine wpAnyH_take (i := 22) (v := ?_) rfl (by kernel_rfl) (by kernel_rfl) (by kernel_rfl) (fun _ _ _ h => h) (Or.inl ⟨by rfl, ?_⟩) (by assumption) ?_
          rotate_left
          · intro w hSw
            (try dsimp only at hSw)
            go_simp
            try with_reducible rfl
          try simp only [Act.put, List.setIfInBounds_toArray, List.set_cons_zero, List.set_cons_succ, List.getElem_toArray, List.getElem_cons_zero, List.getElem_cons_succ]
          refine wpAnyH_take (i := 23) (v := ?_) rfl (by kernel_rfl) (by kernel_rfl) (by kernel_rfl) (fun _ _ _ h => h) (Or.inl ⟨by rfl, ?_⟩) (by assumption) ?_
          rotate_left
          · intro w hSw
            (try dsimp only at hSw)
            go_simp
            try with_reducible rfl
          try simp only [Act.put, List.setIfInBounds_toArray, List.set_cons_zero, List.set_cons_succ, List.getElem_toArray, List.getElem_cons_zero, List.getElem_cons_succ]
          refine wpAnyH_done (by kernel_rfl) ?_ _
          clear hHeld hmt hS7
          cases vb
          · have hL1 := HLL.out
            go_wp2_with (at_builtin; refine wpList_app _ rfl (.tmp 56) (.tmp 58) 60 rfl w1.heap.size 3 i0 (.int .i64 0) 1 8 Tryd.underlying60 hi hi0 hi1 hi2 rfl (by decide) _ L _ rfl (HO7.out.alloc _) _ _ 1 1 [.int .i64 (k : Int)] rfl (sl_new w7 #[.int .i64 (k : Int)] 3 1 1 rfl (by omega)) (by simp [Value.oneCell']) (by unfold maxLen; omega) (by omega) (by have := HB7.out.size; have := HB01.out; simp; omega) ?_; intro v8 w8 hown8 hg8 hat8)
            have HB8 := Lib.hid (grown_below (HB7.out.alloc HB7.out.size (.cells #[.int .i64 (k : Int)] 3)) (HO7.out.alloc _) hg8 (Nat.le_refl _) (by have := HB7.out.size; simp; omega))
            have HO8 : Hid (w8.ownsRow w1.heap.size 3 1 v8 (L + 1) ((missB es m ks ps fs (k + 1)).map fun i : Nat => .int .i64 (i : Int))) := by show World.ownsRow _ _ _ _ _ _ _; rw [missB_succ, HBD.out]; simpa using hown8
            have HLL' : Hid (L + 1 = (missB es m ks ps fs (k + 1)).length) := by show _ = _; rw [missB_succ, HBD.out, HLL.out]; simp
            clear hown8 hg8 hat8 hL1
            go_roundw
            case rel => exact ⟨k + 1, L + 1, by omega, by go_num, HLL', HO8, HB8⟩
            case measure => simp [intOf]; omega
          · have HO' : Hid (w7.ownsRow w1.heap.size 3 1 u11 L ((missB es m ks ps fs (k + 1)).map fun i : Nat => .int .i64 (i : Int))) := by show World.ownsRow _ _ _ _ _ _ _; rw [missB_succ, HBD.out]; simpa using HO7.out
            have HLL' : Hid (L = (missB es m ks ps fs (k + 1)).length) := by show _ = _; rw [missB_succ, HBD.out]; simpa using HLL.out
            go_wp2_with fail
            go_roundw
            case rel => exact ⟨k + 1, L, by omega, by go_num, HLL', HO', HB7⟩
            case measure => simp [intOf]; omega
        · have hk1 : ¬ ((k : Int) < F) := by omega
          have hk2 : decide ((k : Int) < F) = false := by simp; omega
          clear hfr
          go_wp2_with fail
          refine wp_region_held_drew (S := fun w' => Bk w' q 23 (dl x) ∧ Bk w' w.heap.size 23 (dl m) ∧ w'.cell? ⟨b2, o2 + k, none⟩ = some (.slice p.A p.n p.c)) (by kernel_rfl) ⟨Bk.drew HX5.out, Bk.drew HY5.out, HCS.out⟩ (fun hHeld => ?_)
          refine wpAnyH_take (i := 0) (v := ?_) rfl (by kernel_rfl) (by kernel_rfl) (by kernel_rfl) (fun _ _ _ h => h) (Or.inl ⟨by rfl, ?_⟩) (by assumption) ?_
          rotate_left
          · intro w hSw
            (try dsimp only at hSw)
            go_simp
            try with_reducible rfl
          try simp only [Act.put, List.setIfInBounds_toArray, List.set_cons_zero, List.set_cons_succ, List.getElem_toArray, List.getElem_cons_zero]
          refine wpAnyH_take (i := 1) (v := ?_) rfl (by kernel_rfl) (by kernel_rfl) (by kernel_rfl) (fun _ _ _ h => h) (Or.inl ⟨by rfl, ?_⟩) (by assumption) ?_
          rotate_left
          · intro w hSw
            (try dsimp only at hSw)
            go_simp
            try with_reducible rfl
          try simp only [Act.put, List.setIfInBounds_toArray, List.set_cons_zero, List.set_cons_succ, List.getElem_toArray, List.getElem_cons_zero, List.getElem_cons_succ]
          refine wpAnyH_take (i := 2) (v := ?_) rfl (by kernel_rfl) (by kernel_rfl) (by kernel_rfl) (fun _ _ _ h => h) (Or.inl ⟨by rfl, ?_⟩) (by assumption) ?_
          rotate_left
          · intro w hSw
            (try dsimp only at hSw)
            go_simp
            try with_reducible rfl
          try simp only [Act.put, List.setIfInBounds_toArray, List.set_cons_zero, List.set_cons_succ, List.getElem_toArray, List.getElem_cons_zero, List.getElem_cons_succ]
          refine wpAnyH_take (i := 3) (v := ?_) rfl (by kernel_rfl) (by kernel_rfl) (by kernel_rfl) (fun _ _ _ h => h) (Or.inl ⟨by rfl, ?_⟩) (by assumption) ?_
          rotate_left
          · intro w hSw
            (try dsimp only at hSw)
            go_simp
            try with_reducible rfl
          try simp only [Act.put, List.setIfInBounds_toArray, List.set_cons_zero, List.set_cons_succ, List.getElem_toArray, List.getElem_cons_zero, List.getElem_cons_succ]
          refine wpAnyH_take (i := 4) (v := ?_) rfl (by kernel_rfl) (by kernel_rfl) (by kernel_rfl) (fun _ _ _ h => h) (Or.inl ⟨by rfl, ?_⟩) (by assumption) ?_
          rotate_left
          · intro w hSw
            (try dsimp only at hSw)
            go_simp
            try with_reducible rfl
          try simp only [Act.put, List.setIfInBounds_toArray, List.set_cons_zero, List.set_cons_succ, List.getElem_toArray, List.getElem_cons_zero, List.getElem_cons_succ]
          refine wpAnyH_take (i := 5) (v := ?_) rfl (by kernel_rfl) (by kernel_rfl) (by kernel_rfl) (fun _ _ _ h => h) (Or.inl ⟨by rfl, ?_⟩) (by assumption) ?_
          rotate_left
          · intro w hSw
            (try dsimp only at hSw)
            go_simp
            try with_reducible rfl
          try simp only [Act.put, List.setIfInBounds_toArray, List.set_cons_zero, List.set_cons_succ, List.getElem_toArray, List.getElem_cons_zero, List.getElem_cons_succ]
          refine wpAnyH_take (i := 6) (v := ?_) rfl (by kernel_rfl) (by kernel_rfl) (by kernel_rfl) (fun _ _ _ h => h) (Or.inl ⟨by rfl, ?_⟩) (by assumption) ?_
          rotate_left
          · intro w hSw
            (try dsimp only at hSw)
            go_simp
            try with_reducible rfl
          try simp only [Act.put, List.setIfInBounds_toArray, List.set_cons_zero, List.set_cons_succ, List.getElem_toArray, List.getElem_cons_zero, List.getElem_cons_succ]
          refine wpAnyH_take (i := 7) (v := ?_) rfl (by kernel_rfl) (by kernel_rfl) (by kernel_rfl) (fun _ _ _ h => h) (Or.inl ⟨by rfl, ?_⟩) (by assumption) ?_
          rotate_left
          · intro w hSw
            (try dsimp only at hSw)
            go_simp
            try with_reducible rfl
          try simp only [Act.put, List.setIfInBounds_toArray, List.set_cons_zero, List.set_cons_succ, List.getElem_toArray, List.getElem_cons_zero, List.getElem_cons_succ]
          refine wpAnyH_take (i := 8) (v := ?_) rfl (by kernel_rfl) (by kernel_rfl) (by kernel_rfl) (fun _ _ _ h => h) (Or.inl ⟨by rfl, ?_⟩) (by assumption) ?_
          rotate_left
          · intro w hSw
            (try dsimp only at hSw)
            go_simp
            try with_reducible rfl
          try simp only [Act.put, List.setIfInBounds_toArray, List.set_cons_zero, List.set_cons_succ, List.getElem_toArray, List.getElem_cons_zero, List.getElem_cons_succ]
          refine wpAnyH_take (i := 9) (v := ?_) rfl (by kernel_rfl) (by kernel_rfl) (by kernel_rfl) (fun _ _ _ h => h) (Or.inl ⟨by rfl, ?_⟩) (by assumption) ?_
          rotate_left
          · intro w hSw
            (try dsimp only at hSw)
            go_simp
            try with_reducible rfl
          try simp only [Act.put, List.setIfInBounds_toArray, List.set_cons_zero, List.set_cons_succ, List.getElem_toArray, List.getElem_cons_zero, List.getElem_cons_succ]
          refine wpAnyH_take (i := 10) (v := .agg (List.toArray (dl x))) rfl (by kernel_rfl) (by kernel_rfl) (by kernel_rfl) (fun _ _ _ h => h) (yieldsIf_load_mid (by rfl) _ _ rfl _ _ rfl (dl x) _ (fun w hSw => (Bk.range (pre := []) (post := []) (by simpa using hSw.1) rfl)) Tryd.underlying23 rfl (HD.out)) (by assumption) ?_
          try simp only [Act.put, List.setIfInBounds_toArray, List.set_cons_zero, List.set_cons_succ, List.getElem_toArray, List.getElem_cons_zero, List.getElem_cons_succ]
          refine wpAnyH_take (i := 11) (v := .agg (List.toArray (dl m))) rfl (by kernel_rfl) (by kernel_rfl) (by kernel_rfl) (fun _ _ _ h => h) (yieldsIf_load_mid (by rfl) _ _ rfl _ _ rfl (dl m) _ (fun w hSw => (Bk.range (pre := []) (post := []) (by simpa using hSw.2.1) rfl)) Tryd.underlying23 rfl (HDM.out)) (by assumption) ?_
          try simp only [Act.put, List.setIfInBounds_toArray, List.set_cons_zero, List.set_cons_succ, List.getElem_toArray, List.getElem_cons_zero, List.getElem_cons_succ]
          refine wpAnyH_take (i := 12) (v := ?_) rfl (by kernel_rfl) (by kernel_rfl) (by kernel_rfl) (fun _ _ _ h => h) (Or.inl ⟨by rfl, ?_⟩) (by assumption) ?_
          rotate_left
          · intro w hSw
            (try dsimp only at hSw)
            go_simp
            try with_reducible rfl
          try simp only [Act.put, List.setIfInBounds_toArray, List.set_cons_zero, List.set_cons_succ, List.getElem_toArray, List.getElem_cons_zero, List.getElem_cons_succ]
          refine wpAnyH_take (i := 13) (v := ?_) rfl (by kernel_rfl) (by kernel_rfl) (by kernel_rfl) (fun _ _ _ h => h) (Or.inl ⟨by rfl, ?_⟩) (by assumption) ?_
          rotate_left
          · intro w hSw
            (try dsimp only at hSw)
            go_simp
            try with_reducible rfl
          try simp only [Act.put, List.setIfInBounds_toArray, List.set_cons_zero, List.set_cons_succ, List.getElem_toArray, List.getElem_cons_zero, List.getElem_cons_succ]
          refine wpAnyH_take (i := 14) (v := ?_) rfl (by kernel_rfl) (by kernel_rfl) (by kernel_rfl) (fun _ _ _ h => h) (Or.inl ⟨by rfl, ?_⟩) (by assumption) ?_
          rotate_left
          · intro w hSw
            (try dsimp only at hSw)
            go_simp
            try with_reducible rfl
          try simp only [Act.put, List.setIfInBounds_toArray, List.set_cons_zero, List.set_cons_succ, List.getElem_toArray, List.getElem_cons_zero, List.getElem_cons_succ]
          refine wpAnyH_take (i := 15) (v := ?_) rfl (by kernel_rfl) (by kernel_rfl) (by kernel_rfl) (fun _ _ _ h => h) (Or.inl ⟨by rfl, ?_⟩) (by assumption) ?_
          rotate_left
          · intro w hSw
            have hcell := hSw.2.2
            clear hSw
            go_simp
            try with_reducible rfl
          try simp only [Act.put, List.setIfInBounds_toArray, List.set_cons_zero, List.set_cons_succ, List.getElem_toArray, List.getElem_cons_zero, List.getElem_cons_succ]
          refine wpAnyH_take (i := 17) (v := ?_) rfl (by kernel_rfl) (by kernel_rfl) (by kernel_rfl) (fun _ _ _ h => h) (Or.inl ⟨by rfl, ?_⟩) (by assumption) ?_
          rotate_left
          · intro w hSw
            (try dsimp only at hSw)
            go_simp
            try with_reducible rfl
          try simp only [Act.put, List.setIfInBounds_toArray, List.set_cons_zero, List.set_cons_succ, List.getElem_toArray, List.getElem_cons_zero, List.getElem_cons_succ]
          refine wpAnyH_take (i := 18) (v := ?_) rfl (by kernel_rfl) (by kernel_rfl) (by kernel_rfl) (fun _ _ _ h => h) (Or.inl ⟨by rfl, ?_⟩) (by assumption) ?_
          rotate_left
          · intro w hSw
            have hcell := nil_book g
            clear hSw
            go_simp
            try with_reducible rfl
          try simp only [Act.put, List.setIfInBounds_toArray, List.set_cons_zero, List.set_cons_succ, List.getElem_toArray, List.getElem_cons_zero, List.getElem_cons_succ]
          refine wpAnyH_take (i := 19) (v := ?_) rfl (by kernel_rfl) (by kernel_rfl) (by kernel_rfl) (fun _ _ _ h => h) (Or.inl ⟨by rfl, ?_⟩) (by assumption) ?_
          rotate_left
          · intro w hSw
            (try dsimp only at hSw)
            go_simp
            try with_reducible rfl
          try simp only [Act.put, List.setIfInBounds_toArray, List.set_cons_zero, List.set_cons_succ, List.getElem_toArray, List.getElem_cons_zero, List.getElem_cons_succ]
          refine wpAnyH_ready (rs := [16]) (by kernel_rfl) (by simp) ?_
          refine AllReadyH.cons rfl (fun K hK => ?_) AllReadyH.nil
          go_simp
          (go_at_call 44; refine (bclone_any w5.drew p.A p.n p.c p.bs HPP.out.drew hpn4).mono ?_; rintro e w6 ⟨v6, rfl, hown⟩; have hb6 : Below w5.heap.size w5 w6 := (below_draws w5 w5.heap.size 1).trans hown.2; obtain ⟨A6, c6, rfl, hsl, _, _⟩ := own_facts hown; have HS6 := Lib.hid hsl; have HB6 := Lib.hid (HB5.out.trans (hb6.mono HB5.out.size)); have HO6 := Lib.hid (own_keep HO5.out hb6); have HX6 := Lib.hid (HX5.out.later hb6); have HY6 := Lib.hid (HY5.out.later hb6); have HC6 := Lib.hid ((hb6.cell (p := ⟨b2, o2 + k, none⟩) (World.block_lt_of_cell? w5 _ HCS.out)).trans HCS.out); clear hown hb6 hsl)
          refine hK.out _ _ (⟨HX6.out, HY6.out, HC6.out⟩) (fun hHeld => ?_)
          clear hK K
          try simp only [Act.put, List.setIfInBounds_toArray, List.set_cons_zero, List.set_cons_succ, List.getElem_toArray, List.getElem_cons_zero, List.getElem_cons_succ]
          obtain ⟨vb, hvb⟩ : ∃ vb, verB es (x, m) p.bs = vb := ⟨_, rfl⟩
          have HVB := Lib.hid hvb
          rw [hvb] at HBD
          clear hvb
          have hmt := meth_book g
          refine wpAnyH_ready (rs := [20]) (by kernel_rfl) (by simp) ?_
          refine AllReadyH.cons rfl (fun K hK => ?_) AllReadyH.nil
          go_simp
          (refine (verify_any w6 lo g es (HBK.out.later HB6.out) x m HXO.out HM.out hl A6 _ c6 p.bs HS6.out HPO.out).mono ?_; rw [HVB.out]; rintro e w7 ⟨rfl, hb7⟩; have HB7 := Lib.hid (HB6.out.trans (hb7.mono HB6.out.size)); have HO7 := Lib.hid (own_keep HO6.out hb7); have hS7 := And.intro (HX6.out.later hb7) (And.intro (HY6.out.later hb7) ((hb7.cell (p := ⟨b2, o2 + k, none⟩) (World.block_lt_of_cell? w6 _ HC6.out)).trans HC6.out)); clear hb7)
          refine hK.out _ _ (hS7) (fun hHeld => ?_)
          clear hK K
          try simp only [Act.put, List.setIfInBounds_toArray, List.set_cons_zero, List.set_cons_succ, List.getElem_toArray, List.getElem_cons_zero, List.getElem_cons_succ]
          refine wpAnyH_take (i := 21) (v := ?_) rfl (by kernel_rfl) (by kernel_rfl) (by kernel_rfl) (fun _ _ _ h => h) (Or.inl ⟨by rfl, ?_⟩) (by assumption) ?_
          rotate_left
          · intro w hSw
            (try dsimp only at hSw)
            go_simp
            try with_reducible rfl
          try simp only [Act.put, List.setIfInBounds_toArray, List.set_cons_zero, List.set_cons_succ, List.getElem_toArray, List.getElem_cons_zero, List.getElem_cons_succ]
          refine wpAnyH_take (i := 22) (v := ?_) rfl (by kernel_rfl) (by kernel_rfl) (by kernel_rfl) (fun _ _ _ h => h) (Or.inl ⟨by rfl, ?_⟩) (by assumption) ?_
          rotate_left
          · intro w hSw
            (try dsimp only at hSw)
            go_simp
            try with_reducible rfl
          try simp only [Act.put, List.setIfInBounds_toArray, List.set_cons_zero, List.set_cons_succ, List.getElem_toArray, List.getElem_cons_zero, List.getElem_cons_succ]
          refine wpAnyH_take (i := 23) (v := ?_) rfl (by kernel_rfl) (by kernel_rfl) (by kernel_rfl) (fun _ _ _ h => h) (Or.inl ⟨by rfl, ?_⟩) (by assumption) ?_
          rotate_left
          · intro w hSw
            (try dsimp only at hSw)
            go_simp
            try with_reducible rfl
          try simp only [Act.put, List.setIfInBounds_toArray, List.set_cons_zero, List.set_cons_succ, List.getElem_toArray, List.getElem_cons_zero, List.getElem_cons_succ]
          refine wpAnyH_done (by kernel_rfl) ?_ _
          clear hHeld hmt hS7
          cases vb
          · have hL1 := HLL.out
            go_wp2_with (at_builtin; refine wpList_app _ rfl (.tmp 56) (.tmp 58) 60 rfl w1.heap.size 3 i0 (.int .i64 0) 1 8 Tryd.underlying60 hi hi0 hi1 hi2 rfl (by decide) _ L _ rfl (HO7.out.alloc _) _ _ 1 1 [.int .i64 (k : Int)] rfl (sl_new w7 #[.int .i64 (k : Int)] 3 1 1 rfl (by omega)) (by simp [Value.oneCell']) (by unfold maxLen; omega) (by omega) (by have := HB7.out.size; have := HB01.out; simp; omega) ?_; intro v8 w8 hown8 hg8 hat8)
            have HB8 := Lib.hid (grown_below (HB7.out.alloc HB7.out.size (.cells #[.int .i64 (k : Int)] 3)) (HO7.out.alloc _) hg8 (Nat.le_refl _) (by have := HB7.out.size; simp; omega))
            have HO8 : Hid (w8.ownsRow w1.heap.size 3 1 v8 (L + 1) ((missB es m ks ps fs (k + 1)).map fun i : Nat => .int .i64 (i : Int))) := by show World.ownsRow _ _ _ _ _ _ _; rw [missB_succ, HBD.out]; simpa using hown8
            have HLL' : Hid (L + 1 = (missB es m ks ps fs (k + 1)).length) := by show _ = _; rw [missB_succ, HBD.out, HLL.out]; simp
            clear hown8 hg8 hat8 hL1
            go_roundw
            case rel => exact ⟨k + 1, L + 1, by omega, by go_num, HLL', HO8, HB8⟩
            case measure => simp [intOf]; omega
          · have HO' : Hid (w7.ownsRow w1.heap.size 3 1 u11 L ((missB es m ks ps fs (k + 1)).map fun i : Nat => .int .i64 (i : Int))) := by show World.ownsRow _ _ _ _ _ _ _; rw [missB_succ, HBD.out]; simpa using HO7.out
            have HLL' : Hid (L = (missB es m ks ps fs (k + 1)).length) := by show _ = _; rw [missB_succ, HBD.out]; simpa using HLL.out
            go_wp2_with fail
            go_roundw
            case rel => exact ⟨k + 1, L, by omega, by go_num, HLL', HO', HB7⟩
            case measure => simp [intOf]; omega
    · obtain rfl : k = n := by omega
      obtain ⟨Ao, co, hov⟩ := own_form HO.out
      subst hov
      go_wp2_with fail
      go_ret
      exact ⟨⟨_, rfl, by have := HO.out; rw [HLL.out] at this; rw [HLL.out]; exact own_base this HB01.out⟩, below_then HB1.out HB.out⟩
end Go.Proofs.YtakfdlokgddaoaaDoor

/-! Have all signed? -/
namespace Go.Proofs.YtakfdlokgddaoaaDoor
open Go.RowKit Go.Maps

/-- Have all signed that must? -/
def allB (es : List Ent) (m : List Int) (ks : List (List Int)) (ps : List Pc) (fs : List Bool) : Bool := (missB es m ks ps fs ks.length).isEmpty
def allE (es : List Ent) (m : List Int) (ks : List (List Int)) (ps : List Pc) (fs : List Bool) : Int := if allB es m ks ps fs then 0 else 16
theorem all_len (w : World) (v : Value) (Ak As Af : Option Addr) (n ck N C F CF : Nat) (m : List Int) (hm : DgOk m) (h : n = 0 ∨ N ≠ n) :
    Calls Tryd.prog 23 #[v, .slice Ak n ck, .agg (dl m).toArray, .slice As N C, .slice Af F CF] w fun e w' => e = .returned (.int .i64 1) ∧ Below w.heap.size w w' := by
  obtain ⟨Y, hY⟩ : ∃ Y, (dl m).toArray = Y := ⟨_, rfl⟩
  obtain ⟨w1, hw1⟩ : ∃ w1, w.alloc (.cells Y 23) = w1 := ⟨_, rfl⟩
  have hb1 : Below w.heap.size w w1 := hw1 ▸ below_new w _
  have ky : Bk w1 w.heap.size 23 (dl m) := hw1 ▸ Bk.new' w _ Y (by rw [← hY])
  have HW := Lib.hid hw1; have HB1 := Lib.hid hb1; have HY := Lib.hid ky; have HDM := Lib.hid (hdg_size m hm); have HM := Lib.hid hm
  rw [hY]
  clear hY hw1 hb1 ky hm
  by_cases h0 : n = 0
  · subst h0
    clear h
    go_enter Tryd.func23, Tryd.ntmps23
    go_upto_region 1 with fail
    rw [HW.out]
    go_wp2_with fail
    go_ret
    exact ⟨rfl, HB1.out⟩
  · have h1 : ((n : Int) == 0) = false := by simp; omega
    have h2 : ((N : Int) != (n : Int)) = true := by simp; omega
    have h3 : ¬ ((n : Int) = 0) := by omega
    have h4 : ¬ ((N : Int) = n) := by omega
    clear h
    go_enter Tryd.func23, Tryd.ntmps23
    go_upto_region 1 with fail
    rw [HW.out]
    go_wp2_with fail
    go_ret
    exact ⟨rfl, HB1.out⟩

set_option maxRecDepth 20000 in
theorem all_any (w : World) (lo g : Nat) (es : List Ent) (hbk : BookAt w lo g es) (hl : es.length ≤ 65536) (Ak : Option Addr) (n ck : Nat) (ks : List (List Int)) (hk : Sl w w.heap.size 8 Ak n (cellsD ks)) (hko : DsOk ks) (hn : n ≤ 1000000) (hn0 : 0 < n)
    (m : List Int) (hm : DgOk m) (As : Option Addr) (C : Nat) (ps : List Pc) (hs : Sl w w.heap.size 1 As n (ps.map Pc.v)) (hps : PcsOk w ps) (hpb : PcsBy ps) (hpn : ∀ p ∈ ps, p.n ≤ 4294967296)
    (Af : Option Addr) (F CF : Nat) (fs : List Bool) (hf : Sl w w.heap.size 1 Af F (fs.map .bool)) :
    Calls Tryd.prog 23 #[.iface 49 (.pointer (some ⟨g, 0, none⟩)), .slice Ak n ck, .agg (dl m).toArray, .slice As n C, .slice Af F CF] w fun e w' =>
      e = .returned (.int .i64 (allE es m ks ps fs)) ∧ Below w.heap.size w w' := by
  obtain ⟨Y, hY⟩ : ∃ Y, (dl m).toArray = Y := ⟨_, rfl⟩
  obtain ⟨w1, hw1⟩ : ∃ w1, w.alloc (.cells Y 23) = w1 := ⟨_, rfl⟩
  have hb1 : Below w.heap.size w w1 := hw1 ▸ below_new w _
  have ky : Bk w1 w.heap.size 23 (dl m) := hw1 ▸ Bk.new' w _ Y (by rw [← hY])
  have HW := Lib.hid hw1; have HB1 := Lib.hid hb1; have HY := Lib.hid ky; have HDM := Lib.hid (hdg_size m hm); have HM := Lib.hid hm
  rw [hY]
  have HMI := Lib.hid (missing_any w1 lo g es (hbk.later hb1) hl Ak n ck ks (hk.later hb1) hko hn m hm As C ps (hs.later hb1) (hps.later hb1) hpb hpn Af F CF fs (hf.later hb1))
  have HKL := Lib.hid (hk.dgs hko)
  clear hY hw1 hb1 ky hm hbk hk hko hs hps hpb hpn hf
  have h1 : ((n : Int) == 0) = false := by simp; omega
  have h3 : ¬ ((n : Int) = 0) := by omega
  obtain ⟨L, hL⟩ : ∃ L, missB es m ks ps fs n = L := ⟨_, rfl⟩
  have HLL := Lib.hid hL
  rw [hL] at HMI
  clear hL
  by_cases hE : L.length = 0
  · have HA : Hid (allB es m ks ps fs = true) := by show _ = _; rw [allB, HKL.out, HLL.out, List.eq_nil_of_length_eq_zero hE]; rfl
    go_enter Tryd.func23, Tryd.ntmps23
    go_upto_region 1 with fail
    rw [HW.out]
    go_wp2_with (with_reducible refine wpList_load_bk rfl 23 _ rfl w.heap.size rfl (dl m) 23 HY.out _ Tryd.underlying23 rfl HDM.out ?_)
    refine HMI.out.mono ?_
    rintro e w2 ⟨⟨v, rfl, hown⟩, hb2⟩
    obtain ⟨A2, c2, rfl⟩ := own_form hown
    rw [hE]
    have HB2 := Lib.hid (below_then HB1.out hb2)
    clear hown hb2
    go_wp2_with fail
    go_ret
    exact ⟨by rw [allE, HA.out]; rfl, HB2.out⟩
  · have HA : Hid (allB es m ks ps fs = false) := by
      show _ = _; rw [allB, HKL.out, HLL.out]
      cases L with
      | nil => exact absurd rfl hE
      | cons => rfl
    obtain ⟨M, hM⟩ : ∃ M, L.length = M := ⟨_, rfl⟩
    have h5 : decide ((0 : Int) < (M : Int)) = true := by simp; omega
    have h6 : (0 : Int) < (M : Int) := by omega
    have h7 : 0 < M := by omega
    go_enter Tryd.func23, Tryd.ntmps23
    go_upto_region 1 with fail
    rw [HW.out]
    go_wp2_with (with_reducible refine wpList_load_bk rfl 23 _ rfl w.heap.size rfl (dl m) 23 HY.out _ Tryd.underlying23 rfl HDM.out ?_)
    refine HMI.out.mono ?_
    rintro e w2 ⟨⟨v, rfl, hown⟩, hb2⟩
    obtain ⟨A2, c2, rfl⟩ := own_form hown
    rw [hM]
    have HB2 := Lib.hid (below_then HB1.out hb2)
    clear hown hb2 hE hM
    go_wp2_with fail
    go_ret
    exact ⟨by rw [allE, HA.out]; rfl, HB2.out⟩

end Go.Proofs.YtakfdlokgddaoaaDoor
