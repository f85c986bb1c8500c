/- A signed state, read off bytes: the document's. -/
import Derived.Test.YthibihjblodfmaaSX
import Derived.Test.YthibihjblodfmaaS19
import Derived.Test.YthibihjblodfmaaQ13
namespace Go.Proofs.Ythibihjblodfmaa
open Go.RowKit Go.Maps

/-- So many signatures, one behind the other, whatever goes wrong. -/
def itR : Nat → Rd → Rd × List (List Int)
  | 0, s => (s, [])
  | k + 1, s => ((someR (itR k s).1 4096).1, (itR k s).2 ++ [(someR (itR k s).1 4096).2])
def rdT (bs : List Int) : Rd × List Int := someR ⟨bs, 0⟩ 8
def rdN (bs : List Int) : Rd × Int := numR (rdT bs).1 1099511627776
def rdP (bs : List Int) : Rd × List Int := someR (rdN bs).1 4096
def rdM (bs : List Int) : Rd × Int := numR (rdP bs).1 8
def rdL (bs : List Int) : Rd × List (List Int) := itR (rdM bs).2.toNat (rdM bs).1
def failJ (e : Int) : Jn := ⟨zeroD, 0, [], [], e⟩
def decRS (bs : List Int) : Jn :=
  if (rdT bs).1.err ≠ 0 then failJ (rdT bs).1.err
  else if (rdT bs).2.length ≠ 8 then failJ 3
  else if (rdM bs).1.err ≠ 0 then failJ (rdM bs).1.err
  else if (rdM bs).2 < 2 then failJ 3
  else if endR (rdL bs).1 ≠ 0 then failJ (endR (rdL bs).1)
  else ⟨(rdT bs).2, (rdN bs).2, (rdP bs).2, (rdL bs).2, 0⟩
theorem itR_len (s : Rd) : ∀ k, (itR k s).2.length = k
  | 0 => rfl
  | k + 1 => by
    have := itR_len s k
    show ((itR k s).2 ++ [_]).length = _
    simp [this]

def RSg (w : World) (base g : Nat) (n : Int) (t ps : List Int) (L : List (List Int)) : Prop :=
  ∃ (P Q : Option Addr) (c M d : Nat) (rs : List Pc), Bk w g 105 (sgC n t (.slice P ps.length c) (.slice Q M d)) ∧ w.ownsRow base 5 1 (.slice P ps.length c) ps.length (ps.map (.int .u8)) ∧ w.ownsRow base 23 1 (.slice Q M d) M (rs.map Pc.v) ∧ PcsOwn w base rs ∧ bsP rs = L
theorem RSg.later {w w' : World} {base g : Nat} {n : Int} {t ps : List Int} {L : List (List Int)} (h : RSg w base g n t ps L) (hb : Below w.heap.size w w') : RSg w' base g n t ps L := by
  obtain ⟨P, Q, c, M, d, rs, h1, h2, h3, h4, h5⟩ := h
  exact ⟨P, Q, c, M, d, rs, h1.later hb, own_keep h2 hb, own_keep h3 hb, h4.later hb, h5⟩
theorem RSg.only {w w' : World} {base g q : Nat} {n : Int} {t ps : List Int} {L : List (List Int)} {ty : TypeId} {xs : List Value} (h : RSg w base g n t ps L) (hg : w.grownBy w' (some q)) (hk : Bk w q ty xs) (hq : g ≠ q) (h8 : 5 ≠ ty) (h9 : 23 ≠ ty) : RSg w' base g n t ps L := by
  obtain ⟨P, Q, c, M, d, rs, h1, h2, h3, h4, h5⟩ := h
  exact ⟨P, Q, c, M, d, rs, h1.grown hg (by intro h; injection h with h; omega), own_only h2 hg (own_bk_ne h2 hk h8), own_only h3 hg (own_bk_ne h3 hk h9), h4.grown hk h8 hg, h5⟩
/-- The document's decoder in memory: its result, the signed state, the reader, in blocks z, z + 1, z + 2. -/
structure RDB (w : World) (z : Nat) (X : List Value) (s : Rd) (n : Int) (t ps : List Int) (L : List (List Int)) : Prop where
  hz : Bk w z 105 (sgC 0 zeroD (.slice none 0 0) (.slice none 0 0))
  hT : RSg w (z + 3) (z + 1) n t ps L
  hg : Bk w (z + 2) 136 X
  x3 : X.length = 3
  x1 : ∀ x ∈ X, x.oneCell' = true
  hv : RvAt w z (.agg X.toArray) s
  ok : DgOk t
section
variable {w w' : World} {z : Nat} {X : List Value} {s : Rd} {n : Int} {t ps : List Int} {L : List (List Int)}
theorem RDB.lt (h : RDB w z X s n t ps L) : z + 3 ≤ w.heap.size := h.hg.lt
theorem RDB.xs (h : RDB w z X s n t ps L) : (Try.prog.info? 136).map (·.size) = some X.length := by rw [h.x3]; kernel_rfl
theorem RDB.later (h : RDB w z X s n t ps L) (hb : Below w.heap.size w w') : RDB w' z X s n t ps L :=
  ⟨h.hz.later hb, h.hT.later hb, h.hg.later hb, h.x3, h.x1, h.hv.below (hb.mono (by have := h.lt; omega)), h.ok⟩
theorem RDB.turnG (h : RDB w z X s n t ps L) {X' : List Value} {s' : Rd} (hp : Put w w' (z + 2) 136 ([] ++ (X' ++ []))) (hv : RvAt w z (.agg X'.toArray) s') (h3 : X'.length = 3) (h1 : ∀ x ∈ X', x.oneCell' = true) : RDB w' z X' s' n t ps L :=
  ⟨h.hz.grown hp.only (by intro h; injection h with h; omega), h.hT.only hp.only h.hg (by omega) (by decide) (by decide), by have := hp.bk; simpa using this, h3, h1, hv.below ((Below.refl z w).grown hp.only (by have := h.lt; omega) (fun q hq => by injection hq with hq; omega)), h.ok⟩
theorem RDB.turnT (h : RDB w z X s n t ps L) {n' : Int} {t' ps' : List Int} {L' : List (List Int)} (hg : w.grownBy w' (some (z + 1))) (hk : RSg w' (z + 3) (z + 1) n' t' ps' L') (ht : DgOk t') : RDB w' z X s n' t' ps' L' :=
  ⟨h.hz.grown hg (by intro h; injection h with h; omega), hk, h.hg.grown hg (by intro h; injection h with h; omega), h.x3, h.x1, h.hv.below ((Below.refl z w).grown hg (by have := h.lt; omega) (fun q hq => by injection hq with hq; omega)), ht⟩
theorem RDB.err (h : RDB w z X s n t ps L) : w.cell? ⟨z + 2, 2, none⟩ = some (.int .i64 s.err) := by
  obtain ⟨A, m, c, bs, k, e, _⟩ := h.hv
  injection e with e
  have : X = [.slice A m c, .int .i64 (k : Int), .int .i64 s.err] := by simpa using congrArg Array.toList e
  rw [h.hg.cell, this]; rfl
end
theorem rdec_sret {w : World} {g : Nat} {n e : Int} {t : List Int} {p q : Value} (ht : DgOk t) (h : Bk w g 105 (sgC n t p q)) (tmps : Array Value) (h2 : tmps.getD 2 undef = .pointer (some ⟨g, 0, none⟩)) (h3 : tmps.getD 3 undef = .int .i64 e) :
    (results Try.f58 tmps).run Try.prog w = .ok (.tuple #[.agg (sgC n t p q).toArray, .int .i64 e]) w := by
  have r1 : w.rangeAt g 0 (sgC n t p q) := Bk.range (pre := []) (post := []) (by simpa using h) rfl
  have l1 := run_loadVar_mid (P := Try.prog) w g 0 105 (sgC n t p q) _ r1 Try.underlying105 rfl (rsg_info ht)
  rw [Array.getD_eq_getD_getElem?] at h2 h3
  simp [results, Try.results58, h2, h3, asAddr, l1]
theorem zero_drop : ∀ {k : Nat}, k < 8 → zeroD.drop k = 0 :: zeroD.drop (k + 1) := by decide
theorem fill_ok {x : List Int} (hl : x.length = 8) (hx : ByOk x) (k : Nat) : DgOk (x.take k ++ zeroD.drop k) := by
  refine ⟨?_, ?_⟩
  · simp [zeroD]; omega
  · intro y hy
    rcases List.mem_append.1 hy with hy | hy
    · exact hx y (List.mem_of_mem_take hy)
    · exact zero_ok.byt y (List.mem_of_mem_drop hy)
theorem sg_preT {x : List Int} {k : Nat} {n : Int} {p q : Value} (hk : k < 8) : sgC n (x.take k ++ zeroD.drop k) p q = dl (x.take k) ++ ([.int .u8 0] ++ (dl (zeroD.drop (k + 1)) ++ [.int .i64 n, p, q])) := by
  rw [zero_drop hk]; simp [sgC, staC, dl]
theorem sg_preT' {x : List Int} {k : Nat} {n y : Int} {p q : Value} (hx : x[k]? = some y) : dl (x.take k) ++ ([.int .u8 y] ++ (dl (zeroD.drop (k + 1)) ++ [.int .i64 n, p, q])) = sgC n (x.take (k + 1) ++ zeroD.drop (k + 1)) p q := by
  rw [take_snoc hx]; simp [sgC, staC, dl]
set_option maxRecDepth 20000 in
set_option maxHeartbeats 8000000 in
theorem rstDec_any (w : World) (A : Option Addr) (n c : Nat) (bs : List Int) (hbo : ByOk bs) (hs : Sl w w.heap.size 1 A n (bs.map (.int .u8))) (hn : n ≤ 1073741824) (hc : n ≤ c) :
    Calls Try.prog 58 #[.slice A n c] w (RetRJ (decRS bs) w) := by
  obtain ⟨w1, hw1⟩ : ∃ w1, ((w.alloc (.cells #[.int .u8 0, .int .u8 0, .int .u8 0, .int .u8 0, .int .u8 0, .int .u8 0, .int .u8 0, .int .u8 0, .int .i64 0, .slice none 0 0, .slice none 0 0] 105)).alloc (.cells #[.int .u8 0, .int .u8 0, .int .u8 0, .int .u8 0, .int .u8 0, .int .u8 0, .int .u8 0, .int .u8 0, .int .i64 0, .slice none 0 0, .slice none 0 0] 105)).alloc (.cells #[.slice A n c, .int .i64 0, .int .i64 0] 136) = w1 := ⟨_, rfl⟩
  have hb1 : Below w.heap.size w w1 := hw1 ▸ ((below_new w _).alloc (by simp) _).alloc (by simp <;> omega) _
  have HR1 : Hid (RDB w1 w.heap.size [.slice A n c, .int .i64 0, .int .i64 0] ⟨bs, 0⟩ 0 zeroD [] []) := by
    refine ⟨hw1 ▸ ((Bk.new' w _ _ rfl).alloc _).alloc _, ⟨none, none, 0, 0, 0, [], hw1 ▸ (Bk.at_ _ _ _ (by simp) rfl).alloc _, World.ownsRow_nil _ _ _ _, World.ownsRow_nil _ _ _ _, PcsOwn.nil_ _ _, rfl⟩, hw1 ▸ Bk.at_ _ _ #[.slice A n c, .int .i64 0, .int .i64 0] (by simp) rfl, rfl, three_one, RvAt.new (hs.below hb1) hbo hn hc, zero_ok⟩
  have HW := Lib.hid hw1; have HB1 := Lib.hid hb1
  obtain ⟨a, ha⟩ : ∃ a, rdT bs = a := ⟨_, rfl⟩
  have HA := Lib.hid ha
  clear hw1 hb1 hs ha
  go_enter Try.func58, Try.ntmps58
  go_upto_region 3 with fail
  rw [HW.out]
  go_wp2_with (with_reducible refine wpList_load_bk rfl 136 _ rfl (w.heap.size + 2) rfl [.slice A n c, .int .i64 0, .int .i64 0] 136 HR1.out.hg _ Try.underlying136 rfl HR1.out.xs ?_)
  refine (rSome_any w1 w.heap.size (by have := HR1.out.lt; omega) _ _ HR1.out.hv 8 (by omega) (by omega)).mono ?_
  rw [show someR ⟨bs, 0⟩ 8 = a from HA.out]
  rintro e w2 ⟨v', bv, rfl, hv', hown, hbn⟩
  obtain ⟨A2, c2, rfl⟩ := own_form hown
  have HTO : Hid (ByOk a.2) := by show ByOk _; rw [← HA.out]; exact some_ok (m := 8) hbo
  have HO2 := Lib.hid hown
  clear hown
  obtain ⟨X2, rfl, hx3, hx1⟩ := rv_form hv'
  have HR2 := Lib.hid (HR1.out.later hbn)
  have HB2 := Lib.hid (HB1.out.trans (hbn.mono (by have := HR1.out.lt; omega)))
  have HXI : Hid ((Try.prog.info? 136).map (·.size) = some X2.length) := by show _ = _; rw [hx3]; kernel_rfl
  have HV2 := Lib.hid hv'; have H3 := Lib.hid hx3; have H1 := Lib.hid hx1
  try have HO2 := Lib.hid (own_keep HO1.out hbn)
  clear hbn hv' hx3 hx1
  go_wp2_with (with_reducible refine stop_store 136 _ _ rfl ?_)
  refine StopD.go ?_
  refine wpList_store_part rfl 136 _ _ rfl (w.heap.size + 2) 0 (.agg X2.toArray) X2 rfl rfl rfl 136 [] _ [] (by have := HR2.out.hg; simpa using this) rfl (by rw [HR2.out.x3, H3.out]) HXI.out H1.out ?_
  intro w3 hp
  have HR3 := Lib.hid (HR2.out.turnG hp HV2.out H3.out H1.out)
  have HB3 := Lib.hid (below_only HB2.out hp.only (by have := HR2.out.lt; omega) (by omega))
  try have HO3 := Lib.hid (own_only HO2.out hp.only (own_bk_ne HO2.out HR2.out.hg (by decide)))
  clear hp HXI H3 H1
  have hce := HR3.out.err
  by_cases he : a.1.err = 0
  · have he1 : (a.1.err != 0) = false := by simp [he]
    by_cases hl : a.2.length = 8
    · have hl1 : ((a.2.length : Int) != 8) = false := by simp; omega
      have HE0 := Lib.hid he; have HL := Lib.hid hl
      rw [hl] at HO3 ⊢
      clear he hl
      have HR3' : Hid (RDB w3 w.heap.size X2 a.1 0 (a.2.take 0 ++ zeroD.drop 0) [] []) := HR3.out
      go_wp2_with fail
      clear hce
      go_loopw [7] (fun iv wr => ∃ k : Nat, k ≤ 8 ∧ iv = .int .i64 k ∧ Hid (RDB wr w.heap.size X2 a.1 0 (a.2.take k ++ zeroD.drop k) [] []) ∧ Hid (wr.ownsRow w1.heap.size 5 1 (.slice A2 8 c2) 8 (a.2.map (.int .u8))) ∧ Hid (Below w.heap.size w wr)) (fun iv _ => 8 - (intOf iv).toNat)
      case atStart => exact ⟨0, by omega, rfl, HR3'.out, HO3.out, HB3.out⟩
      case round =>
        obtain ⟨k, hk, rfl, HRr, HOr, HBr⟩ := hrel
        by_cases hlt : k < 8
        · obtain ⟨b, o, rfl, hbb, hcc⟩ := (Sl.of_own HOr.out).spot (by omega) (by omega)
          obtain ⟨x, hx⟩ : ∃ x, a.2[k]? = some x := ⟨a.2[k]'(by rw [HL.out]; omega), List.getElem?_eq_getElem _⟩
          have hc : wr.cell? ⟨b, o + k, none⟩ = some (.int .u8 x) := hcc k _ (by rw [List.getElem?_map, hx]; rfl)
          have HXX := Lib.hid hx
          have hki : (k : Int) < 8 := by omega
          have hk0 : (0 : Int) ≤ k := by omega
          obtain ⟨P, Q, c', M, d, rs, h1, h2, h3, h4, h5⟩ := HRr.out.hT
          have K1 := Lib.hid h1; have K2 := Lib.hid h2; have K3 := Lib.hid h3; have K4 := Lib.hid h4; have K5 := Lib.hid h5
          have HTK : Hid ((dl (a.2.take k)).length = k) := by show _ = _; rw [dl_len, List.length_take, HL.out]; omega
          clear hx hcc h1 h2 h3 h4 h5
          go_wp2_with (with_reducible refine stop_store 5 _ _ rfl ?_)
          refine StopD.go ?_
          rw [sg_preT hlt] at K1
          refine wpList_store_part rfl 5 _ _ rfl (w.heap.size + 1) k (.int .u8 x) [.int .u8 x] rfl rfl rfl 105 (dl (a.2.take k)) [.int .u8 0] _ K1.out HTK.out rfl (by kernel_rfl) (by simp [Value.oneCell']) ?_
          intro w4 hp
          have hk4 := hp.bk
          rw [sg_preT' HXX.out] at hk4
          have HS4 : Hid (RSg w4 (w.heap.size + 3) (w.heap.size + 1) 0 (a.2.take (k + 1) ++ zeroD.drop (k + 1)) [] []) := ⟨P, Q, c', M, d, rs, hk4, own_only K2.out hp.only (own_bk_ne K2.out K1.out (by decide)), own_only K3.out hp.only (own_bk_ne K3.out K1.out (by decide)), K4.out.grown K1.out (by decide) hp.only, K5.out⟩
          have HR4 := Lib.hid (HRr.out.turnT hp.only HS4.out (fill_ok HL.out HTO.out (k + 1)))
          have HO4 := Lib.hid (own_only HOr.out hp.only (own_bk_ne HOr.out K1.out (by decide)))
          have HB4 := Lib.hid (below_only HBr.out hp.only HBr.out.size (by omega))
          clear hp hk4
          go_wp2_with fail
          go_roundw
          case rel => exact ⟨k + 1, by omega, by go_num, HR4.out, HO4.out, HB4.out⟩
          case measure => simp [intOf]; omega
        · have hkk : k = 8 := by omega
          subst hkk
          have HT8 : Hid (a.2.take 8 ++ zeroD.drop 8 = a.2) := by show _ = _; rw [List.take_of_length_le (by rw [HL.out]; omega)]; simp [zeroD]
          rw [HT8.out] at HRr
          have HTD : Hid (DgOk a.2) := ⟨HL.out, HTO.out⟩
          clear HOr HO3 HR3 HR3' HB3 HT8 HR1 HR2 HV2
          obtain ⟨b, hb⟩ : ∃ b, rdN bs = b := ⟨_, rfl⟩
          have HBN := Lib.hid hb
          clear hb
          go_wp2_with (with_reducible refine wpList_load_bk rfl 136 _ rfl (w.heap.size + 2) rfl X2 136 HRr.out.hg _ Try.underlying136 rfl HRr.out.xs ?_)
          refine (rRead_any wr w.heap.size (by have := HRr.out.lt; omega) _ _ HRr.out.hv 1099511627776).mono ?_
          rw [show numR a.1 1099511627776 = b by rw [← HBN.out, rdN, HA.out]]
          rintro e w4 ⟨v', rfl, hv', hbn⟩
          have hnr : 0 ≤ b.2 ∧ b.2 ≤ 1099511627776 := by rw [← HBN.out, rdN, HA.out]; exact num_rng HRr.out.hv.ok (by omega)
          have hnw : IntKind.i64.wrap b.2 = b.2 := IntWalk.i64_in _ (by omega)
          clear hnr
          obtain ⟨X4, rfl, hx3, hx1⟩ := rv_form hv'
          have HR4 := Lib.hid (HRr.out.later hbn)
          have HB4 := Lib.hid (HBr.out.trans (hbn.mono (by have := HRr.out.lt; omega)))
          have HXI : Hid ((Try.prog.info? 136).map (·.size) = some X4.length) := by show _ = _; rw [hx3]; kernel_rfl
          have HV4 := Lib.hid hv'; have H3 := Lib.hid hx3; have H1 := Lib.hid hx1
          try have HO4 := Lib.hid (own_keep HOr.out hbn)
          clear hbn hv' hx3 hx1
          go_wp2_with (with_reducible refine stop_store 136 _ _ rfl ?_)
          refine StopD.go ?_
          refine wpList_store_part rfl 136 _ _ rfl (w.heap.size + 2) 0 (.agg X4.toArray) X4 rfl rfl rfl 136 [] _ [] (by have := HR4.out.hg; simpa using this) rfl (by rw [HR4.out.x3, H3.out]) HXI.out H1.out ?_
          intro w5 hp
          have HR5 := Lib.hid (HR4.out.turnG hp HV4.out H3.out H1.out)
          have HB5 := Lib.hid (below_only HB4.out hp.only (by have := HR4.out.lt; omega) (by omega))
          try have HO5 := Lib.hid (own_only HO4.out hp.only (own_bk_ne HO4.out HR4.out.hg (by decide)))
          clear hp HXI H3 H1
          obtain ⟨f, hf⟩ : ∃ f, rdP bs = f := ⟨_, rfl⟩
          have HF := Lib.hid hf
          clear hf
          go_wp2_with (with_reducible refine wpList_load_bk rfl 136 _ rfl (w.heap.size + 2) rfl X4 136 HR5.out.hg _ Try.underlying136 rfl HR5.out.xs ?_)
          refine (rSome_any w5 w.heap.size (by have := HR5.out.lt; omega) _ _ HR5.out.hv 4096 (by omega) (by omega)).mono ?_
          rw [show someR b.1 4096 = f by rw [← HF.out, rdP, HBN.out]]
          rintro e w6 ⟨v', bv, rfl, hv', hown, hbn⟩
          obtain ⟨A6, c6, rfl⟩ := own_form hown
          have HO6 := Lib.hid (own_base (base' := w.heap.size + 3) hown HR5.out.lt)
          clear hown
          obtain ⟨X6, rfl, hx3, hx1⟩ := rv_form hv'
          have HR6 := Lib.hid (HR5.out.later hbn)
          have HB6 := Lib.hid (HB5.out.trans (hbn.mono (by have := HR5.out.lt; omega)))
          have HXI : Hid ((Try.prog.info? 136).map (·.size) = some X6.length) := by show _ = _; rw [hx3]; kernel_rfl
          have HV6 := Lib.hid hv'; have H3 := Lib.hid hx3; have H1 := Lib.hid hx1
          try have HO6 := Lib.hid (own_keep HO5.out hbn)
          clear hbn hv' hx3 hx1
          go_wp2_with (with_reducible refine stop_store 136 _ _ rfl ?_)
          refine StopD.go ?_
          refine wpList_store_part rfl 136 _ _ rfl (w.heap.size + 2) 0 (.agg X6.toArray) X6 rfl rfl rfl 136 [] _ [] (by have := HR6.out.hg; simpa using this) rfl (by rw [HR6.out.x3, H3.out]) HXI.out H1.out ?_
          intro w7 hp
          have HR7 := Lib.hid (HR6.out.turnG hp HV6.out H3.out H1.out)
          have HB7 := Lib.hid (below_only HB6.out hp.only (by have := HR6.out.lt; omega) (by omega))
          try have HO7 := Lib.hid (own_only HO6.out hp.only (own_bk_ne HO6.out HR6.out.hg (by decide)))
          clear hp HXI H3 H1
          obtain ⟨m, hm⟩ : ∃ m, rdM bs = m := ⟨_, rfl⟩
          have HM := Lib.hid hm
          clear hm
          go_wp2_with (with_reducible refine wpList_load_bk rfl 136 _ rfl (w.heap.size + 2) rfl X6 136 HR7.out.hg _ Try.underlying136 rfl HR7.out.xs ?_)
          refine (rRead_any w7 w.heap.size (by have := HR7.out.lt; omega) _ _ HR7.out.hv 8).mono ?_
          rw [show numR f.1 8 = m by rw [← HM.out, rdM, HF.out]]
          rintro e w8 ⟨v', rfl, hv', hbn⟩
          have hmr : 0 ≤ m.2 ∧ m.2 ≤ 8 := by rw [← HM.out, rdM, HF.out]; exact num_rng HR7.out.hv.ok (by omega)
          obtain ⟨X8, rfl, hx3, hx1⟩ := rv_form hv'
          have HR8 := Lib.hid (HR7.out.later hbn)
          have HB8 := Lib.hid (HB7.out.trans (hbn.mono (by have := HR7.out.lt; omega)))
          have HXI : Hid ((Try.prog.info? 136).map (·.size) = some X8.length) := by show _ = _; rw [hx3]; kernel_rfl
          have HV8 := Lib.hid hv'; have H3 := Lib.hid hx3; have H1 := Lib.hid hx1
          try have HO8 := Lib.hid (own_keep HO7.out hbn)
          clear hbn hv' hx3 hx1
          go_wp2_with (with_reducible refine stop_store 136 _ _ rfl ?_)
          refine StopD.go ?_
          refine wpList_store_part rfl 136 _ _ rfl (w.heap.size + 2) 0 (.agg X8.toArray) X8 rfl rfl rfl 136 [] _ [] (by have := HR8.out.hg; simpa using this) rfl (by rw [HR8.out.x3, H3.out]) HXI.out H1.out ?_
          intro w9 hp
          have HR9 := Lib.hid (HR8.out.turnG hp HV8.out H3.out H1.out)
          have HB9 := Lib.hid (below_only HB8.out hp.only (by have := HR8.out.lt; omega) (by omega))
          try have HO9 := Lib.hid (own_only HO8.out hp.only (own_bk_ne HO8.out HR8.out.hg (by decide)))
          clear hp HXI H3 H1
          have hce := HR9.out.err
          by_cases he2 : m.1.err = 0
          · have he3 : (m.1.err != 0) = false := by simp [he2]
            by_cases hm2 : m.2 < 2
            · have hm3 : decide (m.2 < 2) = true := by simp [hm2]
              have HFIN : Hid (decRS bs = failJ 3) := by show _ = _; rw [decRS, HA.out, HM.out, if_neg (by simpa using HE0.out), if_neg (by simpa using HL.out), if_neg (by simpa using he2), if_pos hm2]
              clear he2 hmr
              go_wp2_with (first
                | ((with_reducible refine wpList_build rfl 105 _ rfl #[] ?_ _ (build_rsg0 _) ?_); focus (simp [Act.eval, Act.put]; done))
                | (with_reducible refine stop_store 105 _ _ rfl ?_))
              refine StopD.go ?_
              refine wpList_store_part rfl 105 _ _ rfl w.heap.size 0 (.agg (sgC 0 zeroD (.slice none 0 0) (.slice none 0 0)).toArray) (sgC 0 zeroD (.slice none 0 0) (.slice none 0 0)) rfl rfl rfl 105 [] (sgC 0 zeroD (.slice none 0 0) (.slice none 0 0)) [] (by have := HR9.out.hz; simpa using this) rfl rfl (rsg_info zero_ok) sg_one ?_
              intro wz hp
              have HZz : Hid (Bk wz w.heap.size 105 (sgC 0 zeroD (.slice none 0 0) (.slice none 0 0))) := by show Bk _ _ _ _; have := hp.bk; simpa using this
              have HBz := Lib.hid (below_only HB9.out hp.only HB9.out.size (Nat.le_refl _))
              clear hp
              go_wp2_with fail
              refine bodyPost_ret (rdec_sret zero_ok HZz.out _ rfl rfl) rfl ?_
              rw [HFIN.out]
              exact ⟨none, none, 0, 0, 0, 0, [], rfl, Sl.nil, Sl.nil, PcsOk.nil _, rfl, HBz.out⟩
            · have hm3 : decide (m.2 < 2) = false := by simp; omega
              obtain ⟨M0, hM0⟩ : ∃ M0 : Nat, m.2 = M0 := ⟨m.2.toNat, by omega⟩
              have hM8 : M0 ≤ 8 := by omega
              have HDE : Hid (decRS bs = if endR (itR M0 m.1).1 ≠ 0 then failJ (endR (itR M0 m.1).1) else ⟨a.2, b.2, f.2, (itR M0 m.1).2, 0⟩) := by
                show _ = _
                rw [decRS, rdL, HA.out, HM.out, HBN.out, HF.out, if_neg (by simpa using HE0.out), if_neg (by simpa using HL.out), if_neg (by simpa using he2), if_neg hm2, hM0]; rfl
              have hmw : IntKind.i64.wrap (M0 : Int) = M0 := IntWalk.i64_in _ (by omega)
              rw [hM0] at hm3 ⊢
              obtain ⟨P, Q, c', MM, d, rs, h1, h2, h3, h4, h5⟩ := HR9.out.hT
              have K1 := Lib.hid h1; have K2 := Lib.hid h2; have K3 := Lib.hid h3; have K4 := Lib.hid h4; have K5 := Lib.hid h5
              have HT8 : Hid ((dl a.2).length = 8) := by show _ = _; rw [dl_len, HL.out]
              have HT9 : Hid ((dl a.2 ++ [Value.int .i64 b.2]).length = 9) := by show _ = _; simp [dl_len, HL.out]
              clear h1 h2 h3 h4 h5 hmr he2 hm2 hM0
              go_wp2_with (with_reducible refine stop_store 3 _ _ rfl ?_)
              refine StopD.go ?_
              rw [sg_preN] at K1
              refine wpList_store_part rfl 3 _ _ rfl (w.heap.size + 1) 8 (.int .i64 b.2) [.int .i64 b.2] rfl rfl rfl 105 (dl a.2) [.int .i64 0] _ K1.out HT8.out rfl (by kernel_rfl) (by simp [Value.oneCell']) ?_
              intro w10 hp
              have hk10 := hp.bk
              rw [← sg_preN] at hk10
              have HS10 : Hid (RSg w10 (w.heap.size + 3) (w.heap.size + 1) b.2 a.2 [] []) := ⟨P, Q, c', MM, d, rs, hk10, own_only K2.out hp.only (own_bk_ne K2.out K1.out (by decide)), own_only K3.out hp.only (own_bk_ne K3.out K1.out (by decide)), K4.out.grown K1.out (by decide) hp.only, K5.out⟩
              have HR10 := Lib.hid (HR9.out.turnT hp.only HS10.out HTD.out)
              have HO10 := Lib.hid (own_only HO9.out hp.only (own_bk_ne HO9.out K1.out (by decide)))
              have HB10 := Lib.hid (below_only HB9.out hp.only HB9.out.size (by omega))
              clear hp hk10 K1 K2 K3 K4 K5 hce
              obtain ⟨P, Q, c', MM, d, rs, h1, h2, h3, h4, h5⟩ := HR10.out.hT
              have K1 := Lib.hid h1; have K3 := Lib.hid h3; have K4 := Lib.hid h4; have K5 := Lib.hid h5
              clear h1 h2 h3 h4 h5
              go_wp2_with (with_reducible refine stop_store 23 _ _ rfl ?_)
              refine StopD.go ?_
              rw [sg_preP] at K1
              refine wpList_store_part rfl 23 _ _ rfl (w.heap.size + 1) 9 (.slice A6 f.2.length c6) [.slice A6 f.2.length c6] rfl rfl rfl 105 (dl a.2 ++ [.int .i64 b.2]) [.slice P ([] : List Int).length c'] [.slice Q MM d] K1.out HT9.out rfl (by kernel_rfl) (by simp [Value.oneCell']) ?_
              intro w11 hp
              have hk11 := hp.bk
              rw [← sg_preP] at hk11
              have HS11 : Hid (RSg w11 (w.heap.size + 3) (w.heap.size + 1) b.2 a.2 f.2 []) := ⟨A6, Q, c6, MM, d, rs, hk11, own_only HO10.out hp.only (own_bk_ne HO10.out K1.out (by decide)), own_only K3.out hp.only (own_bk_ne K3.out K1.out (by decide)), K4.out.grown K1.out (by decide) hp.only, K5.out⟩
              have HR11 := Lib.hid (HR10.out.turnT hp.only HS11.out HTD.out)
              have HB11 := Lib.hid (below_only HB10.out hp.only HB10.out.size (by omega))
              clear hp hk11 K1 K3 K4 K5 HO10 HO9 HS11 HS10
              obtain ⟨iP, hPi, hPz, hPs, hPb⟩ := info_parts Try.infoSlB
              go_wp2_with fail
              go_loopw [11] (fun iv wr => ∃ (k : Nat) (X : List Value), k ≤ M0 ∧ iv = .int .i64 k ∧ Hid (RDB wr w.heap.size X (itR k m.1).1 b.2 a.2 f.2 (itR k m.1).2) ∧ Hid (Below w.heap.size w wr)) (fun iv _ => M0 - (intOf iv).toNat)
              case atStart => exact ⟨0, X8, Nat.zero_le _, rfl, HR11.out, HB11.out⟩
              case round =>
                obtain ⟨k, X, hk, rfl, HRs, HBs⟩ := hrel
                by_cases hlt : k < M0
                · have hki : (k : Int) < M0 := by omega
                  obtain ⟨r, hr⟩ : ∃ r, someR (itR k m.1).1 4096 = r := ⟨_, rfl⟩
                  have HIT : Hid (itR (k + 1) m.1 = (r.1, (itR k m.1).2 ++ [r.2])) := by show _ = _; rw [itR, hr]
                  have HLK : Hid ((itR k m.1).2.length = k) := itR_len m.1 k
                  obtain ⟨I, hI⟩ : ∃ I, itR k m.1 = I := ⟨_, rfl⟩
                  rw [hI] at HRs hr HIT HLK
                  have HRR := Lib.hid hr
                  clear hr hI
                  go_wp2_with (with_reducible refine wpList_load_bk rfl 136 _ rfl (w.heap.size + 2) rfl X 136 HRs.out.hg _ Try.underlying136 rfl HRs.out.xs ?_)
                  refine (rSome_any wr w.heap.size (by have := HRs.out.lt; omega) _ _ HRs.out.hv 4096 (by omega) (by omega)).mono ?_
                  rw [HRR.out]
                  rintro e w12 ⟨v', bv, rfl, hv', hown, hbn⟩
                  obtain ⟨A12, c12, rfl⟩ := own_form hown
                  obtain ⟨X12, rfl, hx3, hx1⟩ := rv_form hv'
                  have HR12 := Lib.hid (HRs.out.later hbn)
                  have HB12 := Lib.hid (HBs.out.trans (hbn.mono (by have := HRs.out.lt; omega)))
                  have HO12 := Lib.hid (own_base (base' := w.heap.size + 3) hown HRs.out.lt)
                  have HXI : Hid ((Try.prog.info? 136).map (·.size) = some X12.length) := by show _ = _; rw [hx3]; kernel_rfl
                  have HV12 := Lib.hid hv'; have H3 := Lib.hid hx3; have H1 := Lib.hid hx1
                  clear hbn hv' hx3 hx1 hown
                  go_wp2_with (with_reducible refine stop_store 136 _ _ rfl ?_)
                  refine StopD.go ?_
                  obtain ⟨N, hN⟩ : ∃ N, w12.heap.size = N := ⟨_, rfl⟩
                  have kt : Bk (w12.alloc (.cells #[.slice none 0 0, .int .i64 0, .int .i64 0] 136)) N 136 ([] ++ ([.slice none 0 0, .int .i64 0, .int .i64 0] ++ [])) := by rw [← hN]; exact Bk.new' w12 _ #[.slice none 0 0, .int .i64 0, .int .i64 0] rfl
                  have hbn : Below w12.heap.size w12 (w12.alloc (.cells #[.slice none 0 0, .int .i64 0, .int .i64 0] 136)) := below_new w12 _
                  rw [hN]
                  refine wpList_store_part rfl 136 _ _ rfl N 0 (.agg X12.toArray) X12 rfl rfl rfl 136 [] [.slice none 0 0, .int .i64 0, .int .i64 0] [] kt rfl (by rw [H3.out]; rfl) HXI.out H1.out ?_
                  intro w13 hp
                  have hbn : Below w12.heap.size w12 w13 := hbn.grown hp.only hbn.size (fun q hq => by injection hq with hq; omega)
                  have HN13 : Hid (Bk w13 N 136 X12) := by show Bk _ _ _ _; have := hp.bk; simpa using this
                  have HR13 := Lib.hid (HR12.out.later hbn)
                  have HB13 := Lib.hid (HB12.out.trans (hbn.mono (by have := HR12.out.lt; omega)))
                  have HO13 := Lib.hid (own_keep HO12.out hbn)
                  have HV13 := Lib.hid (HV12.out.below (hbn.mono (by have := HR12.out.lt; omega)))
                  clear hp kt hbn hN
                  go_wp2_with (first
                    | (with_reducible refine wpList_load_bk rfl 136 _ rfl N rfl X12 136 HN13.out _ Try.underlying136 rfl HXI.out ?_)
                    | (with_reducible refine stop_store 136 _ _ rfl ?_))
                  refine StopD.go ?_
                  refine wpList_store_part rfl 136 _ _ rfl (w.heap.size + 2) 0 (.agg X12.toArray) X12 rfl rfl rfl 136 [] _ [] (by have := HR13.out.hg; simpa using this) rfl (by rw [HR13.out.x3, H3.out]) HXI.out H1.out ?_
                  intro w14 hp
                  have HR14 := Lib.hid (HR13.out.turnG hp HV13.out H3.out H1.out)
                  have HB14 := Lib.hid (below_only HB13.out hp.only (by have := HR13.out.lt; omega) (by omega))
                  have HO14 := Lib.hid (own_only HO13.out hp.only (own_bk_ne HO13.out HR13.out.hg (by decide)))
                  clear hp HN13 HXI H3 H1
                  obtain ⟨P, Q, c', MM, d, rs, h1, h2, h3, h4, h5⟩ := HR14.out.hT
                  have hMl : MM ≤ 1000 := by
                    have e1 := h3.1; rw [List.length_map] at e1
                    have e2 : rs.length = I.2.length := by rw [← h5]; simp [bsP]
                    have e3 := HLK.out
                    omega
                  have h10 := (sg_mem HTD.out h1).c10
                  have K1 := Lib.hid h1; have K2 := Lib.hid h2; have K3 := Lib.hid h3; have K4 := Lib.hid h4; have K5 := Lib.hid h5
                  clear h1 h2 h3 h4 h5
                  go_wp2_with (with_reducible refine stop_bs 90 1 _ rfl ?_)
                  refine StopD.go ?_
                  (with_reducible refine wpList_bsliceG ?_ 90 1 _ rfl #[(0, .slice A12 r.2.length c12)] ?_ 23 [Value.slice A12 r.2.length c12] (bs_p1 A12 r.2.length c12) ?_)
                  · rfl
                  · simp [Act.eval, Act.put]
                  intro q7 w15 _ hq7 hbn
                  have HN15 : Hid (Sl w15 w15.heap.size 1 (some ⟨q7, 0, none⟩) 1 [Value.slice A12 r.2.length c12]) := hq7.sl1 rfl (by omega)
                  have HR15 := Lib.hid (HR14.out.later hbn); have HB15 := Lib.hid (HB14.out.trans (hbn.mono (by have := HR14.out.lt; omega))); have HO15 := Lib.hid (own_keep HO14.out hbn)
                  have C1 := Lib.hid (K1.out.later hbn); have C2 := Lib.hid (own_keep K2.out hbn); have C3 := Lib.hid (own_keep K3.out hbn); have C4 := Lib.hid (K4.out.later hbn)
                  clear hq7 hbn h10
                  go_wp2_with (at_builtin; refine wpList_app _ rfl (.tmp 88) (.tmp 90) 90 rfl (w.heap.size + 3) 23 iP (.slice none 0 0) 1 24 Try.underlying90 hPi hPz hPs hPb rfl (by decide) (.slice Q MM d) MM (rs.map Pc.v) rfl C3.out _ _ 1 1 [Value.slice A12 r.2.length c12] rfl HN15.out (by simp [Value.oneCell']) (by unfold maxLen; omega) (by omega) HR15.out.lt ?_; intro v8 w16 hown hg hat; refine stop_here ?_)
                  refine StopD.go ?_
                  obtain ⟨Q8, d8, rfl⟩ := own_form hown
                  obtain ⟨np, hnp⟩ : ∃ np : Pc, np = ⟨A12, r.2.length, c12, r.2⟩ := ⟨_, rfl⟩
                  have E3 : Hid (w16.ownsRow (w.heap.size + 3) 23 1 (.slice Q8 (MM + 1) d8) (MM + 1) ((rs ++ [np]).map Pc.v)) := by show World.ownsRow _ _ _ _ _ _ _; rw [List.map_append, hnp]; exact hown
                  have E4 : Hid (PcsOwn w16 (w.heap.size + 3) (rs ++ [np])) := (C4.out.apart C3.out (by decide) hg).snoc (p := np) (by rw [hnp]; exact own_apart HO15.out C3.out (by decide) hg)
                  have E2 := Lib.hid (own_apart C2.out C3.out (by decide) hg)
                  have E1 := Lib.hid (bk_apart C1.out C3.out (by omega) hg)
                  have F1 := Lib.hid (bk_apart HR15.out.hz C3.out (by omega) hg)
                  have F2 := Lib.hid (bk_apart HR15.out.hg C3.out (by omega) hg)
                  have F3 := Lib.hid (HR15.out.hv.below ((Below.refl w.heap.size w15).grown hg (by have := HR15.out.lt; omega) (fun q hq => by have := (C3.out.lt q hq).1; omega)))
                  have HB16 := Lib.hid (HB15.out.grown hg HB15.out.size (fun q hq => by have := (C3.out.lt q hq).1; omega))
                  have HLT : Hid (w.heap.size + 3 ≤ w16.heap.size) := Nat.le_trans HR15.out.lt hg.size
                  have HL8 : Hid (bsP (rs ++ [np]) = I.2 ++ [r.2]) := by show _ = _; rw [hnp, ← K5.out]; simp [bsP]
                  have HX12 := Lib.hid HR15.out.x3; have HX12' := Lib.hid HR15.out.x1
                  have HPQ : Hid ((dl a.2 ++ [Value.int .i64 b.2, Value.slice P f.2.length c']).length = 10) := by show _ = _; simp [dl_len, HL.out]
                  clear hown hg hat hnp
                  go_wp2_with (with_reducible refine stop_store 90 _ _ rfl ?_)
                  refine StopD.go ?_
                  rw [sg_preQ] at E1
                  refine wpList_store_part rfl 90 _ _ rfl (w.heap.size + 1) 10 (.slice Q8 (MM + 1) d8) [.slice Q8 (MM + 1) d8] rfl rfl rfl 105 (dl a.2 ++ [.int .i64 b.2, .slice P f.2.length c']) [.slice Q MM d] [] E1.out HPQ.out rfl (by kernel_rfl) (by simp [Value.oneCell']) ?_
                  intro w17 hp
                  have HS17 : Hid (RSg w17 (w.heap.size + 3) (w.heap.size + 1) b.2 a.2 f.2 (I.2 ++ [r.2])) := ⟨P, Q8, c', MM + 1, d8, rs ++ [np], by rw [sg_preQ]; exact hp.bk, own_only E2.out hp.only (own_bk_ne E2.out E1.out (by decide)), own_only E3.out hp.only (own_bk_ne E3.out E1.out (by decide)), E4.out.grown E1.out (by decide) hp.only, HL8.out⟩
                  have HR17 : Hid (RDB w17 w.heap.size X12 r.1 b.2 a.2 f.2 (I.2 ++ [r.2])) := ⟨F1.out.grown hp.only (by intro h; injection h with h; omega), HS17.out, F2.out.grown hp.only (by intro h; injection h with h; omega), HX12.out, HX12'.out, F3.out.below ((Below.refl w.heap.size w16).grown hp.only (by have := HLT.out; omega) (fun q hq => by injection hq with hq; omega)), HTD.out⟩
                  have HB17 := Lib.hid (below_only HB16.out hp.only HB16.out.size (by omega))
                  clear hp
                  go_wp2_with fail
                  go_roundw
                  case rel => exact ⟨k + 1, X12, by omega, by go_num, by rw [HIT.out]; exact HR17.out, HB17.out⟩
                  case measure => simp [intOf]; omega
                · have hkk : M0 = k := by omega
                  subst hkk
                  obtain ⟨I, hI⟩ : ∃ I, itR M0 m.1 = I := ⟨_, rfl⟩
                  rw [hI] at HRs HDE
                  clear hI
                  go_wp2_with (with_reducible refine wpList_load_bk rfl 136 _ rfl (w.heap.size + 2) rfl X 136 HRs.out.hg _ Try.underlying136 rfl HRs.out.xs ?_)
                  refine (rEnd_any wr w.heap.size _ _ HRs.out.hv).mono ?_
                  rintro e w12 ⟨rfl, hbn⟩
                  have HR12 := Lib.hid (HRs.out.later hbn)
                  have HB12 := Lib.hid (HBs.out.trans (hbn.mono (by have := HRs.out.lt; omega)))
                  clear hbn
                  by_cases hE0 : endR I.1 = 0
                  · have hE1 : (endR I.1 != 0) = false := by simp [hE0]
                    have HFIN : Hid (decRS bs = ⟨a.2, b.2, f.2, I.2, 0⟩) := by show _ = _; rw [HDE.out, if_neg (by simpa using hE0)]
                    obtain ⟨P, Q, c', MM, d, rs, h1, h2, h3, h4, h5⟩ := HR12.out.hT
                    have K1 := Lib.hid h1; have K2 := Lib.hid (own_base (base' := w.heap.size) h2 (by omega)); have K3 := Lib.hid (own_base (base' := w.heap.size) h3 (by omega)); have K5 := Lib.hid h5
                    have K4 : Hid (PcsOwn w12 w.heap.size rs) := fun q hq => own_base (h4 q hq) (by omega)
                    clear h1 h2 h3 h4 h5 hE0
                    go_wp2_with (first
                      | (with_reducible refine wpList_load_bk rfl 105 _ rfl (w.heap.size + 1) rfl (sgC b.2 a.2 (.slice P f.2.length c') (.slice Q MM d)) 105 K1.out _ Try.underlying105 rfl (rsg_info HTD.out) ?_)
                      | (with_reducible refine stop_store 105 _ _ rfl ?_))
                    refine StopD.go ?_
                    refine wpList_store_part rfl 105 _ _ rfl w.heap.size 0 (.agg (sgC b.2 a.2 (.slice P f.2.length c') (.slice Q MM d)).toArray) (sgC b.2 a.2 (.slice P f.2.length c') (.slice Q MM d)) rfl rfl rfl 105 [] (sgC 0 zeroD (.slice none 0 0) (.slice none 0 0)) [] (by have := HR12.out.hz; simpa using this) rfl (by rw [sgC_len HTD.out]; rfl) (rsg_info HTD.out) sg_one ?_
                    intro w13 hp
                    have HZ13 : Hid (Bk w13 w.heap.size 105 (sgC b.2 a.2 (.slice P f.2.length c') (.slice Q MM d))) := by show Bk _ _ _ _; have := hp.bk; simpa using this
                    have HB13 := Lib.hid (below_only HB12.out hp.only HB12.out.size (Nat.le_refl _))
                    have L2 := Lib.hid (own_only K2.out hp.only (own_bk_ne K2.out HR12.out.hz (by decide)))
                    have L3 := Lib.hid (own_only K3.out hp.only (own_bk_ne K3.out HR12.out.hz (by decide)))
                    have L4 := Lib.hid (K4.out.grown HR12.out.hz (by decide) hp.only)
                    clear hp
                    go_wp2_with fail
                    refine bodyPost_ret (rdec_sret HTD.out HZ13.out _ rfl rfl) rfl ?_
                    rw [HFIN.out]
                    exact ⟨P, Q, f.2.length, c', MM, d, rs, rfl, Sl.of_own L2.out, Sl.of_own L3.out, L4.out.ok, K5.out, HB13.out⟩
                  · have hE1 : (endR I.1 != 0) = true := by simpa using hE0
                    have HFIN : Hid (decRS bs = failJ (endR I.1)) := by show _ = _; rw [HDE.out, if_pos hE0]
                    clear hE0
                    go_wp2_with (first
                      | ((with_reducible refine wpList_build rfl 105 _ rfl #[] ?_ _ (build_rsg0 _) ?_); focus (simp [Act.eval, Act.put]; done))
                      | (with_reducible refine stop_store 105 _ _ rfl ?_))
                    refine StopD.go ?_
                    refine wpList_store_part rfl 105 _ _ rfl w.heap.size 0 (.agg (sgC 0 zeroD (.slice none 0 0) (.slice none 0 0)).toArray) (sgC 0 zeroD (.slice none 0 0) (.slice none 0 0)) rfl rfl rfl 105 [] (sgC 0 zeroD (.slice none 0 0) (.slice none 0 0)) [] (by have := HR12.out.hz; simpa using this) rfl rfl (rsg_info zero_ok) sg_one ?_
                    intro wz hp
                    have HZz : Hid (Bk wz w.heap.size 105 (sgC 0 zeroD (.slice none 0 0) (.slice none 0 0))) := by show Bk _ _ _ _; have := hp.bk; simpa using this
                    have HBz := Lib.hid (below_only HB12.out hp.only HB12.out.size (Nat.le_refl _))
                    clear hp
                    go_wp2_with fail
                    refine bodyPost_ret (rdec_sret zero_ok HZz.out _ rfl rfl) rfl ?_
                    rw [HFIN.out]
                    exact ⟨none, none, 0, 0, 0, 0, [], rfl, Sl.nil, Sl.nil, PcsOk.nil _, rfl, HBz.out⟩
          · have he3 : (m.1.err != 0) = true := by simpa using he2
            have HFIN : Hid (decRS bs = failJ m.1.err) := by show _ = _; rw [decRS, HA.out, HM.out, if_neg (by simpa using HE0.out), if_neg (by simpa using HL.out), if_pos he2]
            obtain ⟨E, hE⟩ : ∃ E, m.1.err = E := ⟨_, rfl⟩
            have HE := Lib.hid hE
            rw [hE] at HFIN he3 hce
            clear he2 hE hmr
            go_wp2_with fail
            refine wp_region_held_drew (S := fun w' => w'.cell? ⟨w.heap.size + 2, 2, none⟩ = some (.int .i64 E)) (by kernel_rfl) (by have := HR9.out.err; rw [HE.out] at this; exact this) (fun hHeld => ?_)
            refine wpAnyH_take (i := 0) (v := .agg (List.toArray (sgC 0 zeroD (.slice none 0 0) (.slice none 0 0)))) rfl (by kernel_rfl) (by kernel_rfl) (by kernel_rfl) (fun _ _ _ h => h) (yieldsIf_build (by rfl) _ _ rfl #[] (by simp [Act.eval]) _ (build_rsg0)) (by assumption) ?_
            try simp only [Act.put, List.setIfInBounds_toArray, List.set_cons_zero, List.set_cons_succ, List.getElem_toArray, List.getElem_cons_zero, List.getElem_cons_succ]
            refine wpAnyH_take (i := 1) (v := ?_) rfl (by kernel_rfl) (by kernel_rfl) (by kernel_rfl) (fun _ _ _ h => h) (Or.inl ⟨by rfl, ?_⟩) (by assumption) ?_
            rotate_left
            · intro w hSw
              (try dsimp only at hSw)
              go_simp
              try with_reducible rfl
            try simp only [Act.put, List.setIfInBounds_toArray, List.set_cons_zero, List.set_cons_succ, List.getElem_toArray, List.getElem_cons_zero, List.getElem_cons_succ]
            refine wpAnyH_take (i := 2) (v := ?_) rfl (by kernel_rfl) (by kernel_rfl) (by kernel_rfl) (fun _ _ _ h => h) (Or.inl ⟨by rfl, ?_⟩) (by assumption) ?_
            rotate_left
            · intro w hSw
              have hcell := hSw
              clear hSw
              go_simp
              try with_reducible rfl
            try simp only [Act.put, List.setIfInBounds_toArray, List.set_cons_zero, List.set_cons_succ, List.getElem_toArray, List.getElem_cons_zero, List.getElem_cons_succ]
            refine wpAnyH_ready (rs := [3]) (by kernel_rfl) (by simp) ?_
            refine AllReadyH.cons rfl (fun K hK => ?_) AllReadyH.nil
            rw [if_pos (by rfl)]
            refine wp_store_part _ _ _ rfl w.heap.size 0 _ (sgC 0 zeroD (.slice none 0 0) (.slice none 0 0)) rfl rfl rfl _ ([]) (sgC 0 zeroD (.slice none 0 0) (.slice none 0 0)) ([]) (by have := HR9.out.hz.drew; simpa using this) rfl rfl (rsg_info zero_ok) sg_one ?_
            intro wz hpz
            refine hK.out _ _ (by rw [World.cell?_of_block (hpz.only.block (w.heap.size + 2) (by have := HR9.out.lt; show _ < w9.heap.size; omega) (by intro h; injection h with h; omega))]; exact hHeld) (fun hHeld => ?_)
            clear hK K
            try simp only [Act.put, List.setIfInBounds_toArray, List.set_cons_zero, List.set_cons_succ, List.getElem_toArray, List.getElem_cons_zero, List.getElem_cons_succ]
            refine wpAnyH_take (i := 4) (v := ?_) rfl (by kernel_rfl) (by kernel_rfl) (by kernel_rfl) (fun _ _ _ h => h) (Or.inl ⟨by rfl, ?_⟩) (by assumption) ?_
            rotate_left
            · intro w hSw
              (try dsimp only at hSw)
              go_simp
              try with_reducible rfl
            try simp only [Act.put, List.setIfInBounds_toArray, List.set_cons_zero, List.set_cons_succ, List.getElem_toArray, List.getElem_cons_zero, List.getElem_cons_succ]
            refine wpAnyH_done (by kernel_rfl) ?_ _
            clear hHeld
            have HZz : Hid (Bk wz w.heap.size 105 (sgC 0 zeroD (.slice none 0 0) (.slice none 0 0))) := by show Bk _ _ _ _; have := hpz.bk; simpa using this
            have HBz := Lib.hid (below_only (HB9.out.trans (below_draws w9 _ 1)) hpz.only HB9.out.size (Nat.le_refl _))
            clear hpz
            go_wp2_with fail
            refine bodyPost_ret (rdec_sret zero_ok HZz.out _ rfl rfl) rfl ?_
            rw [HFIN.out]
            exact ⟨none, none, 0, 0, 0, 0, [], rfl, Sl.nil, Sl.nil, PcsOk.nil _, rfl, HBz.out⟩
    · have hl1 : ((a.2.length : Int) != 8) = true := by simp; omega
      have HFIN : Hid (decRS bs = failJ 3) := by show _ = _; rw [decRS, HA.out, if_neg (by simpa using he), if_pos hl]
      clear he hl
      go_wp2_with (first
        | ((with_reducible refine wpList_build rfl 105 _ rfl #[] ?_ _ (build_rsg0 _) ?_); focus (simp [Act.eval, Act.put]; done))
        | (with_reducible refine stop_store 105 _ _ rfl ?_))
      refine StopD.go ?_
      refine wpList_store_part rfl 105 _ _ rfl w.heap.size 0 (.agg (sgC 0 zeroD (.slice none 0 0) (.slice none 0 0)).toArray) (sgC 0 zeroD (.slice none 0 0) (.slice none 0 0)) rfl rfl rfl 105 [] (sgC 0 zeroD (.slice none 0 0) (.slice none 0 0)) [] (by have := HR3.out.hz; simpa using this) rfl rfl (rsg_info zero_ok) sg_one ?_
      intro wz hp
      have HZz : Hid (Bk wz w.heap.size 105 (sgC 0 zeroD (.slice none 0 0) (.slice none 0 0))) := by show Bk _ _ _ _; have := hp.bk; simpa using this
      have HBz := Lib.hid (below_only HB3.out hp.only HB3.out.size (Nat.le_refl _))
      clear hp
      go_wp2_with fail
      refine bodyPost_ret (rdec_sret zero_ok HZz.out _ rfl rfl) rfl ?_
      rw [HFIN.out]
      exact ⟨none, none, 0, 0, 0, 0, [], rfl, Sl.nil, Sl.nil, PcsOk.nil _, rfl, HBz.out⟩
  · have he1 : (a.1.err != 0) = true := by simpa using he
    have HFIN : Hid (decRS bs = failJ a.1.err) := by show _ = _; rw [decRS, HA.out, if_pos he]
    obtain ⟨E, hE⟩ : ∃ E, a.1.err = E := ⟨_, rfl⟩
    have HE := Lib.hid hE
    rw [hE] at HFIN he1 hce
    clear he hE
    go_wp2_with fail
    refine wp_region_held_drew (S := fun w' => w'.cell? ⟨w.heap.size + 2, 2, none⟩ = some (.int .i64 E)) (by kernel_rfl) (by have := HR3.out.err; rw [HE.out] at this; exact this) (fun hHeld => ?_)
    refine wpAnyH_take (i := 0) (v := .agg (List.toArray (sgC 0 zeroD (.slice none 0 0) (.slice none 0 0)))) rfl (by kernel_rfl) (by kernel_rfl) (by kernel_rfl) (fun _ _ _ h => h) (yieldsIf_build (by rfl) _ _ rfl #[] (by simp [Act.eval]) _ (build_rsg0)) (by assumption) ?_
    try simp only [Act.put, List.setIfInBounds_toArray, List.set_cons_zero, List.set_cons_succ, List.getElem_toArray, List.getElem_cons_zero, List.getElem_cons_succ]
    refine wpAnyH_take (i := 1) (v := ?_) rfl (by kernel_rfl) (by kernel_rfl) (by kernel_rfl) (fun _ _ _ h => h) (Or.inl ⟨by rfl, ?_⟩) (by assumption) ?_
    rotate_left
    · intro w hSw
      (try dsimp only at hSw)
      go_simp
      try with_reducible rfl
    try simp only [Act.put, List.setIfInBounds_toArray, List.set_cons_zero, List.set_cons_succ, List.getElem_toArray, List.getElem_cons_zero, List.getElem_cons_succ]
    refine wpAnyH_take (i := 2) (v := ?_) rfl (by kernel_rfl) (by kernel_rfl) (by kernel_rfl) (fun _ _ _ h => h) (Or.inl ⟨by rfl, ?_⟩) (by assumption) ?_
    rotate_left
    · intro w hSw
      have hcell := hSw
      clear hSw
      go_simp
      try with_reducible rfl
    try simp only [Act.put, List.setIfInBounds_toArray, List.set_cons_zero, List.set_cons_succ, List.getElem_toArray, List.getElem_cons_zero, List.getElem_cons_succ]
    refine wpAnyH_ready (rs := [3]) (by kernel_rfl) (by simp) ?_
    refine AllReadyH.cons rfl (fun K hK => ?_) AllReadyH.nil
    rw [if_pos (by rfl)]
    refine wp_store_part _ _ _ rfl w.heap.size 0 _ (sgC 0 zeroD (.slice none 0 0) (.slice none 0 0)) rfl rfl rfl _ ([]) (sgC 0 zeroD (.slice none 0 0) (.slice none 0 0)) ([]) (by have := HR3.out.hz.drew; simpa using this) rfl rfl (rsg_info zero_ok) sg_one ?_
    intro wz hpz
    refine hK.out _ _ (by rw [World.cell?_of_block (hpz.only.block (w.heap.size + 2) (by have := HR3.out.lt; show _ < w3.heap.size; omega) (by intro h; injection h with h; omega))]; exact hHeld) (fun hHeld => ?_)
    clear hK K
    try simp only [Act.put, List.setIfInBounds_toArray, List.set_cons_zero, List.set_cons_succ, List.getElem_toArray, List.getElem_cons_zero, List.getElem_cons_succ]
    refine wpAnyH_take (i := 4) (v := ?_) rfl (by kernel_rfl) (by kernel_rfl) (by kernel_rfl) (fun _ _ _ h => h) (Or.inl ⟨by rfl, ?_⟩) (by assumption) ?_
    rotate_left
    · intro w hSw
      (try dsimp only at hSw)
      go_simp
      try with_reducible rfl
    try simp only [Act.put, List.setIfInBounds_toArray, List.set_cons_zero, List.set_cons_succ, List.getElem_toArray, List.getElem_cons_zero, List.getElem_cons_succ]
    refine wpAnyH_done (by kernel_rfl) ?_ _
    clear hHeld
    have HZz : Hid (Bk wz w.heap.size 105 (sgC 0 zeroD (.slice none 0 0) (.slice none 0 0))) := by show Bk _ _ _ _; have := hpz.bk; simpa using this
    have HBz := Lib.hid (below_only (HB3.out.trans (below_draws w3 _ 1)) hpz.only HB3.out.size (Nat.le_refl _))
    clear hpz
    go_wp2_with fail
    refine bodyPost_ret (rdec_sret zero_ok HZz.out _ rfl rfl) rfl ?_
    rw [HFIN.out]
    exact ⟨none, none, 0, 0, 0, 0, [], rfl, Sl.nil, Sl.nil, PcsOk.nil _, rfl, HBz.out⟩
end Go.Proofs.Ythibihjblodfmaa
