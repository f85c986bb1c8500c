/- Nodes of the document. -/
import Derived.Test.YtimcjldehememaaDoorT4
namespace Go.Proofs.YtimcjldehememaaDoor
open Go.RowKit

def cellsD (ls : List (List Int)) : List Value := ls.flatMap fun d => d.map (Value.int .u8)
def DsOk (ls : List (List Int)) : Prop := ∀ d ∈ ls, DgOk d
theorem cellsD_len {ls : List (List Int)} (h : DsOk ls) : (cellsD ls).length = ls.length * 8 := by
  induction ls with
  | nil => rfl
  | cons d ls ih =>
    have := ih (fun x hx => h x (by simp [hx]))
    have hd := (h d (by simp)).len
    unfold cellsD at this ⊢
    rw [List.flatMap_cons, List.length_append, this, List.length_map, hd, List.length_cons]; omega
theorem cellsD_get {ls : List (List Int)} (h : DsOk ls) {k : Nat} {d : List Int} (hk : ls[k]? = some d) {j : Nat} (hj : j < 8) : (cellsD ls)[k * 8 + j]? = (d.map (Value.int .u8))[j]? := by
  induction ls generalizing k with
  | nil => simp at hk
  | cons x ls ih =>
    have hx := (h x (by simp)).len
    unfold cellsD at ih ⊢
    cases k with
    | zero =>
      simp at hk; subst hk
      rw [List.flatMap_cons, List.getElem?_append_left (by rw [List.length_map, hx]; omega)]; simp
    | succ k =>
      rw [List.flatMap_cons, List.getElem?_append_right (by rw [List.length_map, hx]; omega), List.length_map, hx, show (k + 1) * 8 + j - 8 = k * 8 + j by omega]
      exact ih (fun y hy => h y (by simp [hy])) (by simpa using hk)
theorem Sl.dgs {w : World} {B n : Nat} {A : Option Addr} {ls : List (List Int)} (h : Sl w B 8 A n (cellsD ls)) (ho : DsOk ls) : ls.length = n := by
  have := h.len; rw [cellsD_len ho] at this; omega
theorem sl_dg {w : World} {B n b o : Nat} {ls : List (List Int)} (h : Sl w B 8 (some ⟨b, o, none⟩) n (cellsD ls)) (ho : DsOk ls) {k : Nat} {d : List Int} (hk : ls[k]? = some d) : w.rangeAt b (o + k * 8) (d.map (.int .u8)) := by
  intro j v hv
  have hkn : k < n := by rw [← h.dgs ho]; exact (List.getElem?_eq_some_iff.1 hk).1
  obtain ⟨ad, e, _, hc⟩ := h.mem (by omega)
  injection e with e; subst e
  have hj : j < 8 := by
    have := (List.getElem?_eq_some_iff.1 hv).1
    rw [List.length_map, (ho d (List.mem_of_getElem? hk)).len] at this; exact this
  have := hc (k * 8 + j) v (by rw [cellsD_get ho hk hj]; exact hv)
  rw [add_plain, ← Nat.add_assoc] at this
  exact this

def leafN : Option (List Int) → List Int
  | some d => lowI d
  | none => lackI
theorem leafN_ok : ∀ o, DgOk (leafN o)
  | some d => lowI_ok d
  | none => lackI_ok
def nodeI (ls : List (List Int)) : Nat → Nat → List Int
  | 0, k => leafN ls[k]?
  | l + 1, k => twoI (nodeI ls l (2 * k)) (nodeI ls l (2 * k + 1))
theorem nodeI_zero (ls : List (List Int)) (k : Nat) : nodeI ls 0 k = leafN ls[k]? := by rw [nodeI]
theorem nodeI_succ (ls : List (List Int)) (l k : Nat) : nodeI ls (l + 1) k = twoI (nodeI ls l (2 * k)) (nodeI ls l (2 * k + 1)) := by rw [nodeI]
theorem nodeI_ok (ls : List (List Int)) (l k : Nat) : DgOk (nodeI ls l k) := by
  cases l with
  | zero => rw [nodeI_zero]; exact leafN_ok _
  | succ l => rw [nodeI_succ]; exact twoI_ok _ _

theorem node_any (A : Option Addr) (n c : Nat) (ls : List (List Int)) (ho : DsOk ls) : ∀ (l k : Nat) (w : World), Sl w w.heap.size 8 A n (cellsD ls) → l ≤ 12 → (k + 1) * 2 ^ l ≤ 4611686018427387904 →
    Calls Tryd.prog 33 #[.slice A n c, .int .i64 (l : Int), .int .i64 (k : Int)] w fun e w' => e = .returned (.agg (dgA (nodeI ls l k))) ∧ Below w.heap.size w w' := by
  intro l
  induction l with
  | zero =>
    intro k w hs _ hk
    have hlen := hs.dgs ho
    obtain ⟨w1, hw1⟩ : ∃ w1, w.alloc (.cells (dgA zeroD) 25) = w1 := ⟨_, rfl⟩
    have kz : DgAt w1 w.heap.size 25 zeroD := hw1 ▸ dg_new w _ _
    have hb1 : Below w.heap.size w w1 := hw1 ▸ below_new w _
    have HKZ := Lib.hid kz; have HB1 := Lib.hid hb1; have HW := Lib.hid hw1; have HS := Lib.hid hs; have HL := Lib.hid hlen; have HDO := Lib.hid ho
    clear kz hb1 hw1 hs hlen ho
    have hnn := HS.out.le
    by_cases hlt : k < n
    · obtain ⟨b, o, rfl, hbb, _⟩ := HS.out.spot (by omega) (by omega)
      obtain ⟨d, hd⟩ : ∃ d, ls[k]? = some d := ⟨ls[k]'(by rw [HL.out]; exact hlt), List.getElem?_eq_getElem _⟩
      have hdo := HDO.out d (List.mem_of_getElem? hd)
      have hr := sl_dg (HS.out.below HB1.out) HDO.out hd
      have hnd : nodeI ls 0 k = lowI d := by rw [nodeI_zero, hd, leafN]
      have HR := Lib.hid hr; have HD := Lib.hid hdo; have HND := Lib.hid hnd
      have HI8 : Hid ((Tryd.prog.info? 25).map (·.size) = some (d.map (Value.int .u8)).length) := by
        show _ = _
        rw [List.length_map, hdo.len]; exact rdg_size
      have hk1 : (k : Int) < n := by omega
      have hk0 : (0 : Int) ≤ k := by omega
      clear hd hdo hr hnd
      go_enter Tryd.func33, Tryd.ntmps33
      go_upto_region 1 with fail
      rw [zero8, show List.replicate 8 (0 : Int) = zeroD from rfl, HW.out]
      go_wp2_with (refine wpList_load_mid rfl 25 _ rfl b (o + k * 8) rfl (d.map (.int .u8)) _ HR.out Tryd.underlying25 rfl HI8.out ?_)
      refine (rlow_any _ d HD.out).mono ?_
      rintro e w2 ⟨rfl, hb2⟩
      have HB2 := Lib.hid (HB1.out.trans (hb2.mono HB1.out.size))
      have HZ2 := Lib.hid (HKZ.out.later hb2).heap
      clear hb2
      have HI := rdg_info (lowI d) (lowI_ok d)
      have HO := Lib.hid (dgA_one (lowI d))
      have HSZ : Hid ((dgA zeroD).size = (dgA (lowI d)).size) := by show _ = _; rw [dgA_size, dgA_size, (lowI_ok d).len]; rfl
      obtain ⟨C, hC⟩ : ∃ C, dgA (lowI d) = C := ⟨_, rfl⟩
      have HC := Lib.hid hC
      rw [hC] at HI HO HSZ ⊢
      clear hC
      go_wp2_with (refine wpList_store_row rfl 25 _ _ rfl w.heap.size C rfl rfl 25 (dgA zeroD) HZ2.out HI.out HSZ.out HO.out ?_)
      refine bodyPost_ret (results_cell_row (p := 6) (ty := 25) rfl _ _ w.heap.size 25 C (0, 0) _ rfl (setRow_heap _ _ _ _ _ _ HZ2.out) Tryd.underlying25 rfl HI.out) rfl ?_
      rw [HND.out, ← HC.out]
      exact ⟨rfl, below_setRow HB2.out (by omega) _⟩
    · have hnd : nodeI ls 0 k = lackI := by rw [nodeI_zero, List.getElem?_eq_none (by rw [HL.out]; omega), leafN]
      have HND := Lib.hid hnd
      have hk1 : decide ((k : Int) < n) = false := by simp; omega
      clear hnd
      go_enter Tryd.func33, Tryd.ntmps33
      go_upto_region 1 with fail
      rw [zero8, show List.replicate 8 (0 : Int) = zeroD from rfl, HW.out]
      go_wp2_with fail
      refine (rlack_any _).mono ?_
      rintro e w2 ⟨rfl, hb2⟩
      have HB2 := Lib.hid (HB1.out.trans (hb2.mono HB1.out.size))
      have HZ2 := Lib.hid (HKZ.out.later hb2).heap
      clear hb2
      have HI := rdg_info lackI lackI_ok
      have HO := Lib.hid (dgA_one lackI)
      have HSZ : Hid ((dgA zeroD).size = (dgA lackI).size) := by show _ = _; rw [dgA_size, dgA_size, lackI_ok.len]; rfl
      obtain ⟨C, hC⟩ : ∃ C, dgA lackI = C := ⟨_, rfl⟩
      have HC := Lib.hid hC
      rw [hC] at HI HO HSZ ⊢
      clear hC
      go_wp2_with (refine wpList_store_row rfl 25 _ _ rfl w.heap.size C rfl rfl 25 (dgA zeroD) HZ2.out HI.out HSZ.out HO.out ?_)
      refine bodyPost_ret (results_cell_row (p := 6) (ty := 25) rfl _ _ w.heap.size 25 C (0, 0) _ rfl (setRow_heap _ _ _ _ _ _ HZ2.out) Tryd.underlying25 rfl HI.out) rfl ?_
      rw [HND.out, ← HC.out]
      exact ⟨rfl, below_setRow HB2.out (by omega) _⟩
  | succ l ih =>
    intro k w hs hl hk
    obtain ⟨w1, hw1⟩ : ∃ w1, w.alloc (.cells (dgA zeroD) 25) = w1 := ⟨_, rfl⟩
    have kz : DgAt w1 w.heap.size 25 zeroD := hw1 ▸ dg_new w _ _
    have hb1 : Below w.heap.size w w1 := hw1 ▸ below_new w _
    have hp : 1 ≤ 2 ^ l := Nat.one_le_two_pow
    have hkb : k + 1 ≤ 2305843009213693952 := by
      have : (k + 1) * 2 ≤ (k + 1) * 2 ^ (l + 1) := Nat.mul_le_mul_left _ (by rw [Nat.pow_succ]; omega)
      omega
    have hk1 : (2 * k + 1) * 2 ^ l ≤ 4611686018427387904 := by
      have : (k + 1) * 2 ^ (l + 1) = (2 * k + 1) * 2 ^ l + 2 ^ l := by rw [Nat.pow_succ, ← Nat.succ_mul]; rw [show (2 * k + 1).succ = (k + 1) * 2 by omega, Nat.mul_assoc, Nat.mul_comm 2]
      omega
    have hk2 : (2 * k + 1 + 1) * 2 ^ l ≤ 4611686018427387904 := by
      have : (k + 1) * 2 ^ (l + 1) = (2 * k + 1 + 1) * 2 ^ l := by rw [Nat.pow_succ, show 2 * k + 1 + 1 = (k + 1) * 2 by omega, Nat.mul_assoc, Nat.mul_comm 2]
      omega
    have HKZ := Lib.hid kz; have HB1 := Lib.hid hb1; have HW := Lib.hid hw1; have HS := Lib.hid hs
    have HIH := Lib.hid ih; have HK1 := Lib.hid hk1; have HK2 := Lib.hid hk2
    have e1 : 2 * (k : Int) = ((2 * k : Nat) : Int) := by omega
    have e2 : ((2 * k : Nat) : Int) + 1 = ((2 * k + 1 : Nat) : Int) := by omega
    have E1 := Lib.hid e1; have E2 := Lib.hid e2
    have l1 : decide (((l : Int) + 1) = 0) = false := by simp; omega
    clear kz hb1 hw1 hs ih hk hk1 hk2 e1 e2 hp ho
    go_enter Tryd.func33, Tryd.ntmps33
    go_upto_region 1 with fail
    rw [zero8, show List.replicate 8 (0 : Int) = zeroD from rfl, HW.out]
    go_wp2_with fail
    rw [E1.out]
    refine (HIH.out (2 * k) w1 ((HS.out.below HB1.out).more HB1.out.size) (by omega) HK1.out).mono ?_
    rintro e w2 ⟨rfl, hb2⟩
    have HB2 := Lib.hid (HB1.out.trans (hb2.mono HB1.out.size))
    have HZ2 := Lib.hid (HKZ.out.later hb2)
    clear hb2
    go_wp2_with fail
    rw [E1.out, E2.out]
    refine (HIH.out (2 * k + 1) w2 ((HS.out.below HB2.out).more HB2.out.size) (by omega) HK2.out).mono ?_
    rintro e w3 ⟨rfl, hb3⟩
    have HB3 := Lib.hid (HB2.out.trans (hb3.mono HB2.out.size))
    have HZ3 := Lib.hid (HZ2.out.later hb3)
    clear hb3
    go_wp2_with fail
    refine (rtwo_any _ _ _ (nodeI_ok _ _ _) (nodeI_ok _ _ _)).mono ?_
    rintro e w4 ⟨rfl, hb4⟩
    have HB4 := Lib.hid (HB3.out.trans (hb4.mono HB3.out.size))
    have HZ4 := Lib.hid (HZ3.out.later hb4).heap
    clear hb4
    rw [← nodeI_succ]
    have HI := rdg_info (nodeI ls (l + 1) k) (nodeI_ok _ _ _)
    have HO := Lib.hid (dgA_one (nodeI ls (l + 1) k))
    have HSZ : Hid ((dgA zeroD).size = (dgA (nodeI ls (l + 1) k)).size) := by show _ = _; rw [dgA_size, dgA_size, (nodeI_ok _ _ _).len]; rfl
    obtain ⟨C, hC⟩ : ∃ C, dgA (nodeI ls (l + 1) k) = C := ⟨_, rfl⟩
    have HC := Lib.hid hC
    rw [hC] at HI HO HSZ ⊢
    clear hC
    go_wp2_with (refine wpList_store_row rfl 25 _ _ rfl w.heap.size C rfl rfl 25 (dgA zeroD) HZ4.out HI.out HSZ.out HO.out ?_)
    refine bodyPost_ret (results_cell_row (p := 6) (ty := 25) rfl _ _ w.heap.size 25 C (0, 0) _ rfl (setRow_heap _ _ _ _ _ _ HZ4.out) Tryd.underlying25 rfl HI.out) rfl ?_
    rw [← HC.out]
    exact ⟨rfl, below_setRow HB4.out (by omega) _⟩
end Go.Proofs.YtimcjldehememaaDoor
