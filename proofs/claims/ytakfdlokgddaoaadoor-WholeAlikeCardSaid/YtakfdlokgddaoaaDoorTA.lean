/- Heights of trees: the program's and the document's. The words of roots. Leaves' nodes, roots: the program's and the document's. The roots' words, nodes of the document. -/
import Derived.Test.YtakfdlokgddaoaaDoorH11
import Derived.Lib.Strings
import Derived.Lib.Slices
import Derived.Lib.Small
import Derived.Lib.Walk
import Derived.Lib.BitFns
/-! Heights of trees: the program's and the document's. -/
namespace Go.Proofs.YtakfdlokgddaoaaDoor
open Go.RowKit

theorem tab_size : Lib.len8tab.size = 256 := by kernel_rfl
theorem tab_get (c : Nat) (hc : c < 256) (h : c < Lib.len8tab.size) : (Lib.len8tab[c]'h).toNat = Lib.bitLen c := by
  have key : ∀ n : Fin 256, (Lib.len8tab[n.val]'(by rw [tab_size]; exact n.isLt)).toNat = Lib.bitLen n.val := by decide +kernel
  exact key ⟨c, hc⟩
theorem bit8 (c : Nat) (hc : c < 256) : Lib.bitLen c ≤ 8 := Lib.bitLen_le8 ⟨c, hc⟩

set_option maxHeartbeats 4000000 in
set_option maxRecDepth 100000 in
theorem len64_any (x : Int) (w : World) (h0 : 0 ≤ x) (h1 : x ≤ 4095) :
    Calls Tryd.prog 83 #[.int .u64 x] w fun e w' => e = .returned (.int .i64 (Lib.bitLen x.toNat)) ∧ w = w' := by
  have hsz : (255 : Int) < Lib.len8tab.size := by rw [tab_size]; decide
  by_cases h8 : x < 256
  · go_enter Tryd.func83, Tryd.ntmps83
    go_wp2
    go_ret
    refine ⟨congrArg Ending.returned (congrArg (Value.int IntKind.i64) ?_), rfl⟩
    rw [tab_get x.toNat (by omega)]
    have := bit8 x.toNat (by omega)
    have e1 := IntWalk.wrap64_in ((Lib.bitLen x.toNat : Nat) : Int) (by omega)
    rw [e1, e1]
  · have h8' : 256 ≤ x := by omega
    go_enter Tryd.func83, Tryd.ntmps83
    go_wp2
    go_ret
    refine ⟨congrArg Ending.returned (congrArg (Value.int IntKind.i64) ?_), rfl⟩
    rw [tab_get (x / 256).toNat (by omega)]
    have := bit8 (x / 256).toNat (by omega)
    have s := Lib.bitLen_shift8 x.toNat (by omega) (by omega)
    have e : (x / 256).toNat = x.toNat / 256 := by omega
    rw [e] at this ⊢
    have e1 := IntWalk.wrap64_in ((Lib.bitLen (x.toNat / 256) : Nat) : Int) (by omega)
    have e2 := IntWalk.wrap64_in (8 + ((Lib.bitLen (x.toNat / 256) : Nat) : Int)) (by omega)
    rw [e1, e2, s]; omega
theorem len_any (x : Int) (w : World) (h0 : 0 ≤ x) (h1 : x ≤ 4095) :
    Calls Tryd.prog 76 #[.int .u64 x] w fun e w' => e = .returned (.int .i64 (Lib.bitLen x.toNat)) ∧ w = w' := by
  go_enter Tryd.func76, Tryd.ntmps76
  go_wp2_with (go_at_call 83; refine (len64_any x _ h0 h1).mono ?_; rintro e w' ⟨rfl, rfl⟩)
  go_ret
  exact ⟨rfl, rfl⟩

def heightI (n : Nat) : Nat := Lib.bitLen (n - 1)
def heightV (n : Nat) : Int := if n < 1 ∨ 4096 < n then -1 else heightI n
theorem height_le {n : Nat} (h : n ≤ 4096) : heightI n ≤ 12 := Lib.bitLen_le _ _ (by omega) (by omega)
theorem bit_lt (x : Nat) (hx : x < 2 ^ 64) : ∀ k, 2 ^ k ≤ x → k < Lib.bitLen x := by
  intro k hk
  rw [Lib.bitLen_shift k x hk hx]
  have h1 : 0 < x / 2 ^ k := Nat.div_pos hk (Nat.two_pow_pos k)
  have h2 : x / 2 ^ k < 2 ^ 64 := Nat.lt_of_le_of_lt (Nat.div_le_self _ _) hx
  rw [Lib.bitLen_half _ (by omega) h2]
  omega
theorem height_of {n h : Nat} (h1 : 1 ≤ n) (h4 : n ≤ 4096) (hh : h ≤ 12) (hu : n ≤ 2 ^ h) (hl : h = 0 ∨ 2 ^ (h - 1) < n) : heightI n = h := by
  have a : heightI n ≤ h := Lib.bitLen_le _ _ (by omega) (by have := Nat.two_pow_pos h; omega)
  rcases hl with rfl | hl
  · omega
  · have b := bit_lt (n - 1) (by omega) (h - 1) (by omega)
    unfold heightI at a ⊢
    omega
theorem height_up {n : Nat} (h4 : n ≤ 4096) : n ≤ 2 ^ heightI n := by
  rcases Nat.lt_or_ge (2 ^ heightI n) n with h | h
  · have := bit_lt (n - 1) (by omega) (heightI n) (by omega)
    unfold heightI at this; omega
  · exact h

theorem theight_any (n : Nat) (w : World) : Calls Tryd.prog 51 #[.int .i64 (n : Int)] w fun e w' => e = .returned (.int .i64 (heightV n)) ∧ w = w' := by
  by_cases h1 : n < 1
  · have HV := Lib.hid (show heightV n = -1 by rw [heightV, if_pos (.inl h1)])
    have h1' : (n : Int) < 1 := by omega
    go_enter Tryd.func51, Tryd.ntmps51
    go_wp2_with fail
    go_ret
    exact ⟨by rw [HV.out]; rfl, rfl⟩
  by_cases h2 : 4096 < n
  · have HV := Lib.hid (show heightV n = -1 by rw [heightV, if_pos (.inr h2)])
    have h1' : decide ((n : Int) < 1) = false := by simp; omega
    have h2' : (4096 : Int) < n := by omega
    go_enter Tryd.func51, Tryd.ntmps51
    go_wp2_with fail
    go_ret
    exact ⟨by rw [HV.out]; rfl, rfl⟩
  · have HV := Lib.hid (show heightV n = heightI n by rw [heightV, if_neg (by omega)])
    have h1' : decide ((n : Int) < 1) = false := by simp; omega
    have h2' : decide ((4096 : Int) < n) = false := by simp; omega
    have h3 : (1 : Int) ≤ n := by omega
    have h4 : (n : Int) ≤ 4096 := by omega
    have e1 : ((n : Int) - 1).toNat = n - 1 := by omega
    have E1 := Lib.hid e1; clear e1
    go_enter Tryd.func51, Tryd.ntmps51
    go_wp2_with (go_at_call 76; refine (len_any _ _ (by omega) (by omega)).mono ?_; rintro e w' ⟨rfl, rfl⟩; rw [E1.out])
    go_ret
    exact ⟨by rw [HV.out]; rfl, rfl⟩
end Go.Proofs.YtakfdlokgddaoaaDoor

/-! The words of roots. -/
namespace Go.Proofs.YtakfdlokgddaoaaDoor
open Go.RowKit

def digs (h : Nat) : List UInt8 := if h < 10 then [UInt8.ofNat (48 + h)] else [49, UInt8.ofNat (38 + h)]
def rootS (h : Nat) : ByteArray := ⟨([114, 111, 111, 116] ++ digs h).toArray⟩
theorem upto12 {x : Int} (h0 : 0 ≤ x) (hh : x ≤ 12) : x = 0 ∨ x = 1 ∨ x = 2 ∨ x = 3 ∨ x = 4 ∨ x = 5 ∨ x = 6 ∨ x = 7 ∨ x = 8 ∨ x = 9 ∨ x = 10 ∨ x = 11 ∨ x = 12 := by omega

set_option maxRecDepth 100000 in
theorem small_any (x : Int) (h0 : 0 ≤ x) (hh : x ≤ 12) (w : World) : Calls Tryd.prog 87 #[.int .i64 x] w fun e w' => e = .returned (.string ⟨(digs x.toNat).toArray⟩) ∧ w = w' := by
  rcases upto12 h0 hh with rfl | rfl | rfl | rfl | rfl | rfl | rfl | rfl | rfl | rfl | rfl | rfl | rfl
  all_goals
    go_enter Tryd.func87, Tryd.ntmps87
    go_wp2_with fail
    go_ret
    exact ⟨congrArg (fun b => Ending.returned (Value.string b)) (by decide +kernel), rfl⟩
theorem itoa_any (x : Int) (h0 : 0 ≤ x) (hh : x ≤ 12) (w : World) : Calls Tryd.prog 77 #[.int .i64 x] w fun e w' => e = .returned (.string ⟨(digs x.toNat).toArray⟩) ∧ w = w' := by
  have hd : decide (0 ≤ x) = true := by simp; omega
  have h2 : decide (x < 100) = true := by simp; omega
  obtain ⟨S, hS⟩ : ∃ S : ByteArray, ⟨(digs x.toNat).toArray⟩ = S := ⟨_, rfl⟩
  have HC : ∀ W, Calls Tryd.prog 86 #[.int .i64 x, .int .i64 10] W fun e w' => e = .returned (.string S) ∧ W = w' := by
    intro W
    have HSM := small_any x h0 hh
    rw [hS] at HSM
    have HM := Lib.hid HSM
    clear HSM hS
    go_enter Tryd.func86, Tryd.ntmps86
    go_wp2_with (go_at_call 87; refine (HM.out _).mono ?_; rintro e w' ⟨rfl, rfl⟩)
    go_ret
    exact ⟨rfl, rfl⟩
  rw [hS]
  have H1 := Lib.hid HC
  clear HC hS
  have H2 : Hid (∀ W, Calls Tryd.prog 84 #[.int .i64 x] W fun e w' => e = .returned (.string S) ∧ W = w') := by
    intro W
    go_enter Tryd.func84, Tryd.ntmps84
    go_wp2_with (go_at_call 86; refine (H1.out _).mono ?_; rintro e w' ⟨rfl, rfl⟩)
    go_ret
    exact ⟨rfl, rfl⟩
  go_enter Tryd.func77, Tryd.ntmps77
  go_wp2_with (go_at_call 84; refine (H2.out _).mono ?_; rintro e w' ⟨rfl, rfl⟩)
  go_ret
  exact ⟨rfl, rfl⟩

theorem conv_one (W : World) (b : Int) : (convert 29 9 (.slice (some ⟨W.heap.size, 0, none⟩) 1 1)).run Tryd.prog (W.alloc (.cells #[.int .u8 b] 5)) = .ok (.string ⟨#[UInt8.ofNat b.toNat]⟩) (W.alloc (.cells #[.int .u8 b] 5)) := by
  rw [run_convert_bytes_string _ _ _ 5 _ _ _ Tryd.underlying29 Tryd.underlying5 Tryd.underlying9]
  have hl := run_loadCells_list (P := Tryd.prog) (W.alloc (.cells #[.int .u8 b] 5)) ⟨W.heap.size, 0, none⟩ [.int .u8 b] (fun j v hv => by
    have hj : j = 0 := by have := (List.getElem?_eq_some_iff.1 hv).1; simp at this; exact this
    subst hj
    rw [add_plain, (Bk.new W 5 #[.int .u8 b]).cell]; exact hv)
  have := run_bytesToString (P := Tryd.prog) (W.alloc (.cells #[.int .u8 b] 5)) ⟨W.heap.size, 0, none⟩ 1 1 [b] (by simpa using hl)
  rw [this]
  rfl

end Go.Proofs.YtakfdlokgddaoaaDoor

/-! Leaves' nodes, roots: the program's and the document's. -/
namespace Go.Proofs.YtakfdlokgddaoaaDoor
open Go.RowKit

def leafS : ByteArray := ⟨#[108, 101, 97, 102]⟩
def noneS : ByteArray := ⟨#[110, 111, 110, 101]⟩
theorem zeroD_ok : DgOk zeroD := ⟨rfl, fun b hb => by rw [List.eq_of_mem_replicate hb]; omega⟩
def lowI (d : List Int) : List Int := wordI d (bytesOf leafS)
def lackI : List Int := wordI zeroD (bytesOf noneS)
def topI (d : List Int) (h : Nat) : List Int := wordI d (bytesOf (rootS h))
theorem lowI_ok (d : List Int) : DgOk (lowI d) := wordI_ok _ _
theorem lackI_ok : DgOk lackI := wordI_ok _ _
theorem topI_ok (d : List Int) (h : Nat) : DgOk (topI d h) := wordI_ok _ _

/-- Eight cells stored, one after the other. -/
theorem Bk.put8 {w : World} {g : Nat} {t : TypeId} {z : List Int} (h : DgAt w g t z) (hz : z.length = 8) (o0 o1 o2 o3 o4 o5 o6 o7 : Int) :
    DgAt ((((((((w.setCell ⟨g, 0, none⟩ (.int .u8 o0)).setCell ⟨g, 1, none⟩ (.int .u8 o1)).setCell ⟨g, 2, none⟩ (.int .u8 o2)).setCell ⟨g, 3, none⟩ (.int .u8 o3)).setCell ⟨g, 4, none⟩ (.int .u8 o4)).setCell ⟨g, 5, none⟩ (.int .u8 o5)).setCell ⟨g, 6, none⟩ (.int .u8 o6)).setCell ⟨g, 7, none⟩ (.int .u8 o7)) g t [o0, o1, o2, o3, o4, o5, o6, o7] := by
  obtain ⟨z0, z1, z2, z3, z4, z5, z6, z7, rfl⟩ := list8 z hz
  exact Bk.set_ (Bk.set_ (Bk.set_ (Bk.set_ (Bk.set_ (Bk.set_ (Bk.set_ (Bk.set_ h 0 (.int .u8 o0)) 1 (.int .u8 o1)) 2 (.int .u8 o2)) 3 (.int .u8 o3)) 4 (.int .u8 o4)) 5 (.int .u8 o5)) 6 (.int .u8 o6)) 7 (.int .u8 o7)
theorem below_put8 {B g : Nat} {w0 w : World} (h : Below B w0 w) (hg : B ≤ g) (o0 o1 o2 o3 o4 o5 o6 o7 : Int) :
    Below B w0 ((((((((w.setCell ⟨g, 0, none⟩ (.int .u8 o0)).setCell ⟨g, 1, none⟩ (.int .u8 o1)).setCell ⟨g, 2, none⟩ (.int .u8 o2)).setCell ⟨g, 3, none⟩ (.int .u8 o3)).setCell ⟨g, 4, none⟩ (.int .u8 o4)).setCell ⟨g, 5, none⟩ (.int .u8 o5)).setCell ⟨g, 6, none⟩ (.int .u8 o6)).setCell ⟨g, 7, none⟩ (.int .u8 o7)) :=
  (((((((h.setCell (p := ⟨g, 0, none⟩) hg _).setCell (p := ⟨g, 1, none⟩) hg _).setCell (p := ⟨g, 2, none⟩) hg _).setCell (p := ⟨g, 3, none⟩) hg _).setCell (p := ⟨g, 4, none⟩) hg _).setCell (p := ⟨g, 5, none⟩) hg _).setCell (p := ⟨g, 6, none⟩) hg _).setCell (p := ⟨g, 7, none⟩) hg _
theorem only_put8 {g : Nat} {w0 w : World} (h : w0.grownBy w (some g)) (o0 o1 o2 o3 o4 o5 o6 o7 : Int) :
    w0.grownBy ((((((((w.setCell ⟨g, 0, none⟩ (.int .u8 o0)).setCell ⟨g, 1, none⟩ (.int .u8 o1)).setCell ⟨g, 2, none⟩ (.int .u8 o2)).setCell ⟨g, 3, none⟩ (.int .u8 o3)).setCell ⟨g, 4, none⟩ (.int .u8 o4)).setCell ⟨g, 5, none⟩ (.int .u8 o5)).setCell ⟨g, 6, none⟩ (.int .u8 o6)).setCell ⟨g, 7, none⟩ (.int .u8 o7)) (some g) :=
  only_set (only_set (only_set (only_set (only_set (only_set (only_set (only_set h _ _) _ _) _ _) _ _) _ _) _ _) _ _) _ _

theorem low_any (w : World) (d : List Int) (hd : DgOk d) :
    Calls Tryd.prog 53 #[.agg (dgA d)] w fun e w' => e = .returned (.agg (dgA (lowI d))) ∧ Below w.heap.size w w' := by
  obtain ⟨w1, hw1⟩ : ∃ w1, (w.alloc (.cells (dgA d) 23)).alloc (.cells (dgA zeroD) 23) = w1 := ⟨_, rfl⟩
  have kd : DgAt w1 w.heap.size 23 d := hw1 ▸ Bk.alloc (dg_new w _ _) _
  have kz : DgAt w1 (w.heap.size + 1) 23 zeroD := hw1 ▸ Bk.at_ _ _ _ (by simp) (dgA_list _)
  have hb1 : Below w.heap.size w w1 := hw1 ▸ (below_new w _).alloc (by simp) _
  have HKZ := Lib.hid kz; have HB1 := Lib.hid hb1; have HW := Lib.hid hw1
  have HC1 := Lib.hid kd.heap
  have HID := dg_info d hd
  clear kd kz hb1 hw1
  go_enter Tryd.func53, Tryd.ntmps53
  go_upto_region 1 with fail
  rw [zero8, show List.replicate 8 (0 : Int) = zeroD from rfl, HW.out]
  go_wp2_with (refine wpList_load_row rfl 23 _ rfl w.heap.size rfl 23 (dgA d) (0, 0) _ HC1.out Tryd.underlying23 rfl HID.out ?_)
  refine (word_any _ d hd _ (by decide)).mono ?_
  rintro e w2 ⟨rfl, hb2⟩
  have HB2 := Lib.hid (HB1.out.trans (hb2.mono HB1.out.size))
  have HZ2 := Lib.hid (HKZ.out.later hb2).heap
  clear hb2
  rw [show wordI d (bytesOf { data := #[108, 101, 97, 102] }) = lowI d from rfl]
  have HI := dg_info (lowI d) (lowI_ok _)
  have HO := Lib.hid (dgA_one (lowI d))
  have HS : Hid ((dgA zeroD).size = (dgA (lowI d)).size) := by show _ = _; rw [dgA_size, dgA_size, (lowI_ok d).len]; rfl
  obtain ⟨C, hC⟩ : ∃ C, dgA (lowI d) = C := ⟨_, rfl⟩
  have HC := Lib.hid hC
  rw [hC] at HI HO HS ⊢
  clear hC
  go_wp2_with (refine wpList_store_row rfl 23 _ _ rfl (w.heap.size + 1) C rfl rfl 23 (dgA zeroD) HZ2.out HI.out HS.out HO.out ?_)
  refine bodyPost_ret (results_cell_row (p := 2) (ty := 23) rfl _ _ (w.heap.size + 1) 23 C (0, 0) _ rfl (setRow_heap _ _ _ _ _ _ HZ2.out) Tryd.underlying23 rfl HI.out) rfl ?_
  rw [← HC.out]
  exact ⟨rfl, below_setRow HB2.out (by omega) _⟩
end Go.Proofs.YtakfdlokgddaoaaDoor

/-! The roots' words, nodes of the document. -/
namespace Go.Proofs.YtakfdlokgddaoaaDoor
open Go.RowKit

theorem word8 (w : World) (a : List Int) (ha : DgOk a) (s : ByteArray) (hs : s.size ≤ 9223372036854775807) :
    Calls Tryd.prog 50 #[.agg (dgA a), .string s] w fun e w' => ∃ o0 o1 o2 o3 o4 o5 o6 o7 : Int, e = .returned (.agg #[.int .u8 o0, .int .u8 o1, .int .u8 o2, .int .u8 o3, .int .u8 o4, .int .u8 o5, .int .u8 o6, .int .u8 o7]) ∧ Hid (wordI a (bytesOf s) = [o0, o1, o2, o3, o4, o5, o6, o7]) ∧ Below w.heap.size w w' := by
  obtain ⟨o0, o1, o2, o3, o4, o5, o6, o7, ho⟩ := list8 (wordI a (bytesOf s)) (wordI_ok _ _).len
  refine (word_any w a ha s hs).mono ?_
  rintro e w' ⟨rfl, hb⟩
  exact ⟨o0, o1, o2, o3, o4, o5, o6, o7, by rw [ho]; rfl, ho, hb⟩
theorem root_add (x : Nat) : (⟨#[114, 111, 111, 116]⟩ ++ ⟨(digs x).toArray⟩ : ByteArray) = rootS x := by
  rw [rootS]
  simp [ByteArray.ext_iff]
theorem digs_size (x : Nat) : (⟨(digs x).toArray⟩ : ByteArray).size ≤ 2 := by
  unfold digs
  split <;> simp [ByteArray.size]
theorem root_size (x : Nat) : (rootS x).size ≤ 6 := by
  unfold rootS digs
  split <;> simp [ByteArray.size]

set_option maxRecDepth 20000 in
theorem top_any (w : World) (d : List Int) (hd : DgOk d) (x : Int) (h0 : 0 ≤ x) (h1 : x ≤ 12) :
    Calls Tryd.prog 58 #[.agg (dgA d), .int .i64 x] w fun e w' => e = .returned (.agg (dgA (topI d x.toNat))) ∧ Below w.heap.size w w' := by
  obtain ⟨a0, a1, a2, a3, a4, a5, a6, a7, rfl⟩ := list8 d hd.len
  obtain ⟨w1, hw1⟩ : ∃ w1, (w.alloc (.cells (dgA [a0, a1, a2, a3, a4, a5, a6, a7]) 23)).alloc (.cells (dgA zeroD) 23) = w1 := ⟨_, rfl⟩
  have kd : DgAt w1 w.heap.size 23 [a0, a1, a2, a3, a4, a5, a6, a7] := hw1 ▸ Bk.alloc (dg_new w _ _) _
  have kz : DgAt w1 (w.heap.size + 1) 23 zeroD := hw1 ▸ Bk.at_ _ _ _ (by simp) (dgA_list _)
  have hb1 : Below w.heap.size w w1 := hw1 ▸ (below_new w _).alloc (by simp) _
  have hS := cells8 kd
  have hRS := root_size x.toNat
  have hds := digs_size x.toNat
  have HIT := Lib.hid (fun W => itoa_any x h0 h1 W)
  have HAD := Lib.hid (root_add x.toNat)
  obtain ⟨R, hR⟩ : ∃ R : ByteArray, ⟨(digs x.toNat).toArray⟩ = R := ⟨_, rfl⟩
  obtain ⟨RR, hRR⟩ : ∃ RR : ByteArray, rootS x.toNat = RR := ⟨_, rfl⟩
  have hTop : ∀ a, wordI a (bytesOf RR) = topI a x.toNat := fun a => by rw [topI, hRR]
  rw [hR, hRR] at HAD
  rw [hR] at HIT hds
  have q1 : ¬ (9223372036854775807 < 4 + R.size) := by omega
  have q2 : ¬ (9223372036854775803 < R.size) := by omega
  rw [hRR] at hRS
  have hadd : (⟨#[114, 111, 111, 116]⟩ ++ R : ByteArray) = RR := HAD.out
  have HRS : Hid (RR.size ≤ 9223372036854775807) := by show _ ≤ _; omega
  have HTOP := Lib.hid hTop
  have HKZ := Lib.hid kz; have HB1 := Lib.hid hb1; have HW := Lib.hid hw1; have HA := Lib.hid hd; have HKA := Lib.hid kd
  clear kd kz hb1 hw1 hd hR hRR hRS hTop HAD
  go_enter Tryd.func58, Tryd.ntmps58
  go_upto_region 1 with fail
  rw [zero8, show List.replicate 8 (0 : Int) = zeroD from rfl, HW.out]
  go_region_held3 (fun w' => w'.cell? ⟨w.heap.size, 0, none⟩ = some (.int .u8 a0) ∧ w'.cell? ⟨w.heap.size, 1, none⟩ = some (.int .u8 a1) ∧ w'.cell? ⟨w.heap.size, 2, none⟩ = some (.int .u8 a2) ∧ w'.cell? ⟨w.heap.size, 3, none⟩ = some (.int .u8 a3) ∧ w'.cell? ⟨w.heap.size, 4, none⟩ = some (.int .u8 a4) ∧ w'.cell? ⟨w.heap.size, 5, none⟩ = some (.int .u8 a5) ∧ w'.cell? ⟨w.heap.size, 6, none⟩ = some (.int .u8 a6) ∧ w'.cell? ⟨w.heap.size, 7, none⟩ = some (.int .u8 a7)) (first | (with_reducible exact hS3) | (with_reducible exact hS2) | (with_reducible exact hS) | go_keep)
    (first
      | (go_at_call 77; refine (HIT.out _).mono ?_; rintro e w2 ⟨rfl, rfl⟩)
      | (go_at_call 50; refine (word8 _ [a0, a1, a2, a3, a4, a5, a6, a7] HA.out RR HRS.out).mono ?_; rintro e w2 ⟨o0, o1, o2, o3, o4, o5, o6, o7, rfl, ho, hb2⟩; have E2 : Hid (Below w1.heap.size w1 w2) := ((below_draws w1 _ 1).trans hb2); have hS2 := cells8 (HKA.out.later E2.out); obtain ⟨⟨z0, z1, z2, z3, z4, z5, z6, z7⟩, zf, zl⟩ := zeros8 (HKZ.out.later E2.out); have hS3 := cells8 (show DgAt _ w.heap.size _ _ from Bk.grown HKA.out (only_put8 (only_below (only_refl w1 (w.heap.size + 1)) E2.out) o0 o1 o2 o3 o4 o5 o6 o7) (by simp)); clear hb2))
  have HZ8 := Lib.hid (Bk.put8 (HKZ.out.later E2.out) rfl o0 o1 o2 o3 o4 o5 o6 o7)
  have HBL := Lib.hid (below_put8 (B := w.heap.size) (g := w.heap.size + 1) (HB1.out.trans (E2.out.mono HB1.out.size)) (by omega) o0 o1 o2 o3 o4 o5 o6 o7)
  have HI := dg_info [o0, o1, o2, o3, o4, o5, o6, o7] ⟨rfl, by rw [← ho.out]; exact (wordI_ok _ _).byt⟩
  clear z0 z1 z2 z3 z4 z5 z6 z7 zf zl hS hS2 hS3
  go_wp2_with fail
  refine bodyPost_ret (results_cell_row (p := 4) (ty := 23) rfl _ _ (w.heap.size + 1) 23 (dgA [o0, o1, o2, o3, o4, o5, o6, o7]) (0, 0) _ rfl HZ8.out.heap Tryd.underlying23 rfl HI.out) rfl ?_
  exact ⟨by rw [← HTOP.out, ho.out], HBL.out⟩
end Go.Proofs.YtakfdlokgddaoaaDoor
