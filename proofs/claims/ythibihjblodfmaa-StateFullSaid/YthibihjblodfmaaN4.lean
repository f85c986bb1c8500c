/- The book: who signs, and whether it was signed. -/
import Derived.Test.YthibihjblodfmaaN3
namespace Go.Proofs.Ythibihjblodfmaa
open Go.RowKit Go.Maps

theorem signer_any (w : World) (g : Nat) (k : List Int) (hk : DgOk k) : Calls Try.prog 26 #[.pointer (some ⟨g, 0, none⟩), .agg (dl k).toArray] w fun e w' => e = .returned (.iface 151 (.agg (wrC g k).toArray)) ∧ Below w.heap.size w w' := by
  obtain ⟨X, hX⟩ : ∃ X, (dl k).toArray = X := ⟨_, rfl⟩
  obtain ⟨w1, hw1⟩ : ∃ w1, w.alloc (.cells X 29) = w1 := ⟨_, rfl⟩
  have hb1 : Below w.heap.size w w1 := hw1 ▸ below_new w _
  have kx : Bk w1 w.heap.size 29 (dl k) := hw1 ▸ Bk.new' w _ X (by rw [← hX])
  have HW := Lib.hid hw1; have HB1 := Lib.hid hb1; have HX := Lib.hid kx; have HD := Lib.hid (hdg_size k hk); have HBW := Lib.hid (build_wr hk g)
  rw [hX]
  clear hX hw1 hb1 kx
  go_enter Try.func26, Try.ntmps26
  go_upto_region 1 with fail
  rw [HW.out]
  go_wp2_with (first
    | (with_reducible refine wpList_load_bk rfl 29 _ rfl w.heap.size rfl (dl k) 29 HX.out _ Try.underlying29 rfl HD.out ?_)
    | (with_reducible refine wpList_build rfl 151 _ rfl #[(0, .pointer (some ⟨g, 0, none⟩)), (1, .agg (dl k).toArray)] (by simp [Act.eval, Act.put]) (.agg (wrC g k).toArray) (HBW.out _) ?_))
  go_ret
  exact ⟨rfl, HB1.out⟩

theorem RetSig.of {lo g : Nat} {es : List Ent} {e : Ent} {w w1 w' : World} {en : Ending} (h : RetSig lo g es e w1 en w') (hb : Below w.heap.size w w1) (hl : lo ≤ w.heap.size) : RetSig lo g es e w en w' := by
  obtain ⟨⟨A, c, h1, h2⟩, h3, h4, h5⟩ := h
  exact ⟨⟨A, c, h1, own_base h2 hb.size⟩, h3, (hb.mono hl).trans h4, (Keeps.of_below hb).trans h5⟩
structure WrM (w : World) (q g : Nat) (k : List Int) : Prop where
  c0 : w.cell? ⟨q, 0, none⟩ = some (.pointer (some ⟨g, 0, none⟩))
  r1 : w.rangeAt q 1 (dl k)
theorem wr_mem {w : World} {q g : Nat} {k : List Int} {ty : TypeId} (h : Bk w q ty (wrC g k)) : WrM w q g k := by
  have h1 : Bk w q ty ([] ++ .pointer (some ⟨g, 0, none⟩) :: dl k) := h
  have h2 : Bk w q ty ([.pointer (some ⟨g, 0, none⟩)] ++ (dl k ++ [])) := by simpa [wrC] using h
  exact ⟨h1.at1 rfl, h2.range rfl⟩

set_option maxRecDepth 20000 in
theorem wsign_any (w : World) (lo g : Nat) (es : List Ent) (hbk : BookAt w lo g es) (k m : List Int) (hk : DgOk k) (hm : DgOk m) (hl : es.length < 65536) (hlo : lo ≤ w.heap.size) :
    Calls Try.prog 165 #[.agg (wrC g k).toArray, .agg (dl m).toArray] w (RetSig lo g es (k, m) w) := by
  obtain ⟨X, hX⟩ : ∃ X, (wrC g k).toArray = X := ⟨_, rfl⟩
  obtain ⟨Y, hY⟩ : ∃ Y, (dl m).toArray = Y := ⟨_, rfl⟩
  obtain ⟨w1, hw1⟩ : ∃ w1, (w.alloc (.cells X 151)).alloc (.cells Y 29) = w1 := ⟨_, rfl⟩
  have hb1 : Below w.heap.size w w1 := hw1 ▸ (below_new w _).alloc (by simp) _
  have kx : Bk w1 w.heap.size 151 (wrC g k) := hw1 ▸ (Bk.new' w _ X (by rw [← hX])).alloc _
  have ky : Bk w1 (w.heap.size + 1) 29 (dl m) := hw1 ▸ Bk.at_ _ _ Y (by simp) (by rw [← hY])
  have HW := Lib.hid hw1; have HB1 := Lib.hid hb1; have HX := Lib.hid kx; have HY := Lib.hid ky; have HD := Lib.hid (hdg_size k hk); have HDM := Lib.hid (hdg_size m hm); have HBE := Lib.hid (build_ent hk hm)
  have HBK := Lib.hid (hbk.later hb1)
  have HKO := Lib.hid hk; have HMO := Lib.hid hm
  have c0 := (wr_mem kx).c0
  rw [hX, hY]
  clear hX hY hw1 hb1 kx ky hbk hk hm
  go_enter Try.func165, Try.ntmps165
  go_upto_region 1 with fail
  rw [HW.out]
  go_wp2_with (first
    | (with_reducible refine wpList_load_mid rfl 29 _ rfl w.heap.size 1 rfl (dl k) _ (wr_mem HX.out).r1 Try.underlying29 rfl HD.out ?_)
    | (with_reducible refine wpList_load_bk rfl 29 _ rfl (w.heap.size + 1) rfl (dl m) 29 HY.out _ Try.underlying29 rfl HDM.out ?_)
    | (with_reducible refine wpList_build rfl 154 _ rfl #[(0, .agg (dl k).toArray), (1, .agg (dl m).toArray)] (by simp [Act.eval, Act.put]) (.agg (entC (k, m)).toArray) (HBE.out _) ?_))
  refine (sign_any w1 lo g es HBK.out (k, m) ⟨HKO.out, HMO.out⟩ hl).mono ?_
  rintro e w2 ⟨⟨A, c, rfl, hown⟩, hbk2, hb2, hk2⟩
  have HR : Hid (RetSig lo g es (k, m) w (.returned (.tuple #[.slice A 2 c, .int .i64 0])) w2) := RetSig.of ⟨⟨A, c, rfl, hown⟩, hbk2, hb2, hk2⟩ HB1.out hlo
  clear hown hbk2 hb2 hk2
  go_wp2_with fail
  go_ret2
  exact HR.out

theorem ver_bytes {I : Nat} (_hI : I < 65536) {x y : Int} (hx : 0 ≤ x ∧ x < 256) (_hy : 0 ≤ y ∧ y < 256) : decide ((I : Int) = x + y * 256) = decide ([x, y] = sigB I) := by
  have : ((I : Int) = x + y * 256) ↔ [x, y] = sigB I := by
    simp only [sigB, List.cons.injEq, and_true]; omega
  simp only [this]

set_option maxRecDepth 20000 in
set_option maxHeartbeats 2000000 in
theorem verify_any (w : World) (lo g : Nat) (es : List Ent) (hbk : BookAt w lo g es) (k m : List Int) (hk : DgOk k) (hm : DgOk m) (hl : es.length ≤ 65536) (A : Option Addr) (N C : Nat) (sig : List Int) (hs : Sl w w.heap.size 1 A N (sig.map (.int .u8))) (hso : ByOk sig) :
    Calls Try.prog 29 #[.pointer (some ⟨g, 0, none⟩), .agg (dl k).toArray, .agg (dl m).toArray, .slice A N C] w fun e w' => e = .returned (.bool (verB es (k, m) sig)) ∧ Below w.heap.size w w' := by
  obtain ⟨V, b, k1, k2, k3, hlg, hlb, hok⟩ := hbk
  obtain ⟨n, hn⟩ : ∃ n, es.length = n := ⟨_, rfl⟩
  have HN := Lib.hid hn
  rw [hn] at k2 k3 hl
  obtain ⟨X, hX⟩ : ∃ X, (dl k).toArray = X := ⟨_, rfl⟩
  obtain ⟨Y, hY⟩ : ∃ Y, (dl m).toArray = Y := ⟨_, rfl⟩
  obtain ⟨w1, hw1⟩ : ∃ w1, (w.alloc (.cells X 29)).alloc (.cells Y 29) = w1 := ⟨_, rfl⟩
  have hb1 : Below w.heap.size w w1 := hw1 ▸ (below_new w _).alloc (by simp) _
  have kx : Bk w1 w.heap.size 29 (dl k) := hw1 ▸ (Bk.new' w _ X (by rw [← hX])).alloc _
  have ky : Bk w1 (w.heap.size + 1) 29 (dl m) := hw1 ▸ Bk.at_ _ _ Y (by simp) (by rw [← hY])
  have HW := Lib.hid hw1; have HB1 := Lib.hid hb1; have HX := Lib.hid kx; have HY := Lib.hid ky; have HD := Lib.hid (hdg_size k hk); have HDM := Lib.hid (hdg_size m hm); have HBE := Lib.hid (build_ent hk hm)
  have HE : Hid (EntOk (k, m)) := ⟨hk, hm⟩
  have HK1 := Lib.hid (k1.later hb1)
  have HK3 : Hid (w1.ownsMap (H := Unit) Try.prog 154 (plainElem Try.prog 3) b n (bookD es)) := k3.kept (row := none) ⟨hb1.os, hb1.tape, hb1.output, hb1.size, fun k hk _ => hb1.block k hk⟩ (by simp)
  have HOK := Lib.hid hok
  have HS := Lib.hid (hs.later hb1); have HSO := Lib.hid hso; have hlen := hs.length
  have HLEN := Lib.hid hlen
  rw [hX, hY]
  clear hX hY hw1 hb1 kx ky k1 k2 k3 hk hm hok hs hso
  by_cases hN : N = 2
  · subst hN
    obtain ⟨I, hI⟩ : ∃ I, es.idxOf (k, m) = I := ⟨_, rfl⟩
    have HI := Lib.hid hI
    obtain ⟨F, hF⟩ : ∃ F, decide ((k, m) ∈ es) = F := ⟨_, rfl⟩
    have HF := Lib.hid hF
    have hIl : F = true → I < 65536 := fun h => by rw [← hI]; have := List.idxOf_lt_length_of_mem (by simpa using hF.trans h : (k, m) ∈ es); omega
    obtain ⟨J, hJ⟩ : ∃ J : Int, (if (k, m) ∈ es then (I : Int) else 0) = J := ⟨_, rfl⟩
    have HJ := Lib.hid hJ
    have HLK : Hid (∀ w', w'.ownsMap (H := Unit) Try.prog 154 (plainElem Try.prog 3) b n (bookD es) → (Instr.lookup 146 (.map (some b)) (.agg (entC (k, m)).toArray) true).run Try.prog w' = .ok (.tuple #[.int .i64 J, .bool F]) w') := fun w' h => by
      have := book_look h HOK.out HE.out
      rw [HI.out, HJ.out, HF.out] at this
      exact this
    clear hI hF hJ
    obtain ⟨bb, o, rfl, _, hcc⟩ := HS.out.spot (by omega) (by omega)
    obtain ⟨x, hx0⟩ : ∃ x, sig[0]? = some x := ⟨sig[0]'(by omega), List.getElem?_eq_getElem _⟩
    obtain ⟨y, hy0⟩ : ∃ y, sig[1]? = some y := ⟨sig[1]'(by omega), List.getElem?_eq_getElem _⟩
    have hx1 : w1.cell? ⟨bb, o, none⟩ = some (.int .u8 x) := hcc 0 _ (by rw [List.getElem?_map, hx0]; rfl)
    have hy1 : w1.cell? ⟨bb, o + 1, none⟩ = some (.int .u8 y) := hcc 1 _ (by rw [List.getElem?_map, hy0]; rfl)
    clear hcc
    have hxo := HSO.out x (List.mem_of_getElem? hx0)
    have hyo := HSO.out y (List.mem_of_getElem? hy0)
    have HSIG : Hid (sig = [x, y]) := by
      show sig = _
      match sig, hlen, hx0, hy0 with
      | [a, b], _, hx0, hy0 => simp at hx0 hy0; rw [hx0, hy0]
    have hsh : IntKind.i64.wrap (y * 256) = y * 256 := IntWalk.i64_in _ (by omega)
    have hor := sig_or hxo hyo
    have hwx : IntKind.i64.wrap x = x := IntWalk.i64_in _ (by omega)
    have hwy : IntKind.i64.wrap y = y := IntWalk.i64_in _ (by omega)
    clear hx0 hy0 hlen
    go_enter Try.func29, Try.ntmps29
    go_upto_region 1 with fail
    rw [HW.out]
    go_wp2_with fail
    refine wp_region_held_drew (S := fun w' => Bk w' w.heap.size 29 (dl k) ∧ Bk w' (w.heap.size + 1) 29 (dl m) ∧ Bk w' g 149 [V, .map (some b)] ∧ w'.ownsMap (H := Unit) Try.prog 154 (plainElem Try.prog 3) b n (bookD es)) (by kernel_rfl) ⟨Bk.drew HX.out, Bk.drew HY.out, Bk.drew HK1.out, HK3.out.drew⟩ (fun hHeld => ?_)
    refine wpAnyH_take (i := 0) (v := ?_) rfl (by kernel_rfl) (by kernel_rfl) (by kernel_rfl) (fun _ _ _ h => h) (Or.inl ⟨by rfl, ?_⟩) (by assumption) ?_
    rotate_left
    · intro w hSw
      (try dsimp only at hSw)
      go_simp
      try with_reducible rfl
    try simp only [Act.put, List.setIfInBounds_toArray, List.set_cons_zero, List.set_cons_succ, List.getElem_toArray, List.getElem_cons_zero]
    refine wpAnyH_take (i := 1) (v := ?_) rfl (by kernel_rfl) (by kernel_rfl) (by kernel_rfl) (fun _ _ _ h => h) (Or.inl ⟨by rfl, ?_⟩) (by assumption) ?_
    rotate_left
    · intro w hSw
      (try dsimp only at hSw)
      go_simp
      try with_reducible rfl
    try simp only [Act.put, List.setIfInBounds_toArray, List.set_cons_zero, List.set_cons_succ, List.getElem_toArray, List.getElem_cons_zero, List.getElem_cons_succ]
    refine wpAnyH_take (i := 2) (v := ?_) rfl (by kernel_rfl) (by kernel_rfl) (by kernel_rfl) (fun _ _ _ h => h) (Or.inl ⟨by rfl, ?_⟩) (by assumption) ?_
    rotate_left
    · intro w hSw
      (try dsimp only at hSw)
      go_simp
      try with_reducible rfl
    try simp only [Act.put, List.setIfInBounds_toArray, List.set_cons_zero, List.set_cons_succ, List.getElem_toArray, List.getElem_cons_zero, List.getElem_cons_succ]
    refine wpAnyH_take (i := 3) (v := ?_) rfl (by kernel_rfl) (by kernel_rfl) (by kernel_rfl) (fun _ _ _ h => h) (Or.inl ⟨by rfl, ?_⟩) (by assumption) ?_
    rotate_left
    · intro w hSw
      have hcell := (bk2 hSw.2.2.1).2
      clear hSw
      go_simp
      try with_reducible rfl
    try simp only [Act.put, List.setIfInBounds_toArray, List.set_cons_zero, List.set_cons_succ, List.getElem_toArray, List.getElem_cons_zero, List.getElem_cons_succ]
    refine wpAnyH_take (i := 4) (v := .agg (List.toArray (dl k))) rfl (by kernel_rfl) (by kernel_rfl) (by kernel_rfl) (fun _ _ _ h => h) (yieldsIf_load_mid (by rfl) _ _ rfl _ _ rfl (dl k) _ (fun w hSw => (Bk.range (pre := []) (post := []) (by simpa using hSw.1) rfl)) Try.underlying29 rfl (HD.out)) (by assumption) ?_
    try simp only [Act.put, List.setIfInBounds_toArray, List.set_cons_zero, List.set_cons_succ, List.getElem_toArray, List.getElem_cons_zero, List.getElem_cons_succ]
    refine wpAnyH_take (i := 5) (v := .agg (List.toArray (dl m))) rfl (by kernel_rfl) (by kernel_rfl) (by kernel_rfl) (fun _ _ _ h => h) (yieldsIf_load_mid (by rfl) _ _ rfl _ _ rfl (dl m) _ (fun w hSw => (Bk.range (pre := []) (post := []) (by simpa using hSw.2.1) rfl)) Try.underlying29 rfl (HDM.out)) (by assumption) ?_
    try simp only [Act.put, List.setIfInBounds_toArray, List.set_cons_zero, List.set_cons_succ, List.getElem_toArray, List.getElem_cons_zero, List.getElem_cons_succ]
    refine wpAnyH_take (i := 6) (v := .agg (List.toArray (entC (k, m)))) rfl (by kernel_rfl) (by kernel_rfl) (by kernel_rfl) (fun _ _ _ h => h) (yieldsIf_build (by rfl) _ _ rfl #[(0, .agg (dl k).toArray), (1, .agg (dl m).toArray)] (by simp [Act.eval]) _ (HBE.out)) (by assumption) ?_
    try simp only [Act.put, List.setIfInBounds_toArray, List.set_cons_zero, List.set_cons_succ, List.getElem_toArray, List.getElem_cons_zero, List.getElem_cons_succ]
    refine wpAnyH_take (i := 7) (v := ?_) rfl (by kernel_rfl) (by kernel_rfl) (by kernel_rfl) (fun _ _ _ h => h) (Or.inl ⟨by rfl, ?_⟩) (by assumption) ?_
    rotate_left
    · intro w hSw
      have hcell := HLK.out _ hSw.2.2.2
      clear hSw
      go_simp
      try with_reducible rfl
    try simp only [Act.put, List.setIfInBounds_toArray, List.set_cons_zero, List.set_cons_succ, List.getElem_toArray, List.getElem_cons_zero, List.getElem_cons_succ]
    refine wpAnyH_take (i := 8) (v := ?_) rfl (by kernel_rfl) (by kernel_rfl) (by kernel_rfl) (fun _ _ _ h => h) (Or.inl ⟨by rfl, ?_⟩) (by assumption) ?_
    rotate_left
    · intro w hSw
      (try dsimp only at hSw)
      go_simp
      try with_reducible rfl
    try simp only [Act.put, List.setIfInBounds_toArray, List.set_cons_zero, List.set_cons_succ, List.getElem_toArray, List.getElem_cons_zero, List.getElem_cons_succ]
    refine wpAnyH_take (i := 9) (v := ?_) rfl (by kernel_rfl) (by kernel_rfl) (by kernel_rfl) (fun _ _ _ h => h) (Or.inl ⟨by rfl, ?_⟩) (by assumption) ?_
    rotate_left
    · intro w hSw
      (try dsimp only at hSw)
      go_simp
      try with_reducible rfl
    try simp only [Act.put, List.setIfInBounds_toArray, List.set_cons_zero, List.set_cons_succ, List.getElem_toArray, List.getElem_cons_zero, List.getElem_cons_succ]
    refine wpAnyH_take (i := 10) (v := ?_) rfl (by kernel_rfl) (by kernel_rfl) (by kernel_rfl) (fun _ _ _ h => h) (Or.inl ⟨by rfl, ?_⟩) (by assumption) ?_
    rotate_left
    · intro w hSw
      (try dsimp only at hSw)
      go_simp
      try with_reducible rfl
    try simp only [Act.put, List.setIfInBounds_toArray, List.set_cons_zero, List.set_cons_succ, List.getElem_toArray, List.getElem_cons_zero, List.getElem_cons_succ]
    refine wpAnyH_take (i := 11) (v := ?_) rfl (by kernel_rfl) (by kernel_rfl) (by kernel_rfl) (fun _ _ _ h => h) (Or.inl ⟨by rfl, ?_⟩) (by assumption) ?_
    rotate_left
    · intro w hSw
      (try dsimp only at hSw)
      go_simp
      try with_reducible rfl
    try simp only [Act.put, List.setIfInBounds_toArray, List.set_cons_zero, List.set_cons_succ, List.getElem_toArray, List.getElem_cons_zero, List.getElem_cons_succ]
    refine wpAnyH_take (i := 12) (v := ?_) rfl (by kernel_rfl) (by kernel_rfl) (by kernel_rfl) (fun _ _ _ h => h) (Or.inl ⟨by rfl, ?_⟩) (by assumption) ?_
    rotate_left
    · intro w hSw
      (try dsimp only at hSw)
      go_simp
      try with_reducible rfl
    try simp only [Act.put, List.setIfInBounds_toArray, List.set_cons_zero, List.set_cons_succ, List.getElem_toArray, List.getElem_cons_zero, List.getElem_cons_succ]
    refine wpAnyH_done (by kernel_rfl) ?_ _
    clear hHeld
    cases F
    · go_wp2_with fail
      refine wp_region_held_drew (S := fun _ => True) (by kernel_rfl) trivial (fun hHeld => ?_)
      refine wpAnyH_take (i := 0) (v := ?_) rfl (by kernel_rfl) (by kernel_rfl) (by kernel_rfl) (fun _ _ _ h => h) (Or.inl ⟨by rfl, ?_⟩) (by assumption) ?_
      rotate_left
      · intro w hSw
        (try dsimp only at hSw)
        go_simp
        try with_reducible rfl
      try simp only [Act.put, List.setIfInBounds_toArray, List.set_cons_zero, List.set_cons_succ, List.getElem_toArray, List.getElem_cons_zero]
      refine wpAnyH_take (i := 1) (v := ?_) rfl (by kernel_rfl) (by kernel_rfl) (by kernel_rfl) (fun _ _ _ h => h) (Or.inl ⟨by rfl, ?_⟩) (by assumption) ?_
      rotate_left
      · intro w hSw
        (try dsimp only at hSw)
        go_simp
        try with_reducible rfl
      try simp only [Act.put, List.setIfInBounds_toArray, List.set_cons_zero, List.set_cons_succ, List.getElem_toArray, List.getElem_cons_zero, List.getElem_cons_succ]
      refine wpAnyH_take (i := 2) (v := undef) rfl (by kernel_rfl) (by kernel_rfl) (by kernel_rfl) (fun _ _ _ h => h) (Or.inr ⟨by rfl, rfl⟩) (by assumption) ?_
      try simp only [Act.put, List.setIfInBounds_toArray, List.set_cons_zero, List.set_cons_succ, List.getElem_toArray, List.getElem_cons_zero, List.getElem_cons_succ]
      refine wpAnyH_take (i := 3) (v := undef) rfl (by kernel_rfl) (by kernel_rfl) (by kernel_rfl) (fun _ _ _ h => h) (Or.inr ⟨by rfl, rfl⟩) (by assumption) ?_
      try simp only [Act.put, List.setIfInBounds_toArray, List.set_cons_zero, List.set_cons_succ, List.getElem_toArray, List.getElem_cons_zero, List.getElem_cons_succ]
      refine wpAnyH_take (i := 4) (v := undef) rfl (by kernel_rfl) (by kernel_rfl) (by kernel_rfl) (fun _ _ _ h => h) (Or.inr ⟨by rfl, rfl⟩) (by assumption) ?_
      try simp only [Act.put, List.setIfInBounds_toArray, List.set_cons_zero, List.set_cons_succ, List.getElem_toArray, List.getElem_cons_zero, List.getElem_cons_succ]
      refine wpAnyH_take (i := 5) (v := undef) rfl (by kernel_rfl) (by kernel_rfl) (by kernel_rfl) (fun _ _ _ h => h) (Or.inr ⟨by rfl, rfl⟩) (by assumption) ?_
      try simp only [Act.put, List.setIfInBounds_toArray, List.set_cons_zero, List.set_cons_succ, List.getElem_toArray, List.getElem_cons_zero, List.getElem_cons_succ]
      refine wpAnyH_take (i := 6) (v := undef) rfl (by kernel_rfl) (by kernel_rfl) (by kernel_rfl) (fun _ _ _ h => h) (Or.inr ⟨by rfl, rfl⟩) (by assumption) ?_
      try simp only [Act.put, List.setIfInBounds_toArray, List.set_cons_zero, List.set_cons_succ, List.getElem_toArray, List.getElem_cons_zero, List.getElem_cons_succ]
      refine wpAnyH_take (i := 7) (v := undef) rfl (by kernel_rfl) (by kernel_rfl) (by kernel_rfl) (fun _ _ _ h => h) (Or.inr ⟨by rfl, rfl⟩) (by assumption) ?_
      try simp only [Act.put, List.setIfInBounds_toArray, List.set_cons_zero, List.set_cons_succ, List.getElem_toArray, List.getElem_cons_zero, List.getElem_cons_succ]
      refine wpAnyH_take (i := 8) (v := undef) rfl (by kernel_rfl) (by kernel_rfl) (by kernel_rfl) (fun _ _ _ h => h) (Or.inr ⟨by rfl, rfl⟩) (by assumption) ?_
      try simp only [Act.put, List.setIfInBounds_toArray, List.set_cons_zero, List.set_cons_succ, List.getElem_toArray, List.getElem_cons_zero, List.getElem_cons_succ]
      refine wpAnyH_take (i := 9) (v := undef) rfl (by kernel_rfl) (by kernel_rfl) (by kernel_rfl) (fun _ _ _ h => h) (Or.inr ⟨by rfl, rfl⟩) (by assumption) ?_
      try simp only [Act.put, List.setIfInBounds_toArray, List.set_cons_zero, List.set_cons_succ, List.getElem_toArray, List.getElem_cons_zero, List.getElem_cons_succ]
      refine wpAnyH_take (i := 10) (v := undef) rfl (by kernel_rfl) (by kernel_rfl) (by kernel_rfl) (fun _ _ _ h => h) (Or.inr ⟨by rfl, rfl⟩) (by assumption) ?_
      try simp only [Act.put, List.setIfInBounds_toArray, List.set_cons_zero, List.set_cons_succ, List.getElem_toArray, List.getElem_cons_zero, List.getElem_cons_succ]
      refine wpAnyH_take (i := 11) (v := undef) rfl (by kernel_rfl) (by kernel_rfl) (by kernel_rfl) (fun _ _ _ h => h) (Or.inr ⟨by rfl, rfl⟩) (by assumption) ?_
      try simp only [Act.put, List.setIfInBounds_toArray, List.set_cons_zero, List.set_cons_succ, List.getElem_toArray, List.getElem_cons_zero, List.getElem_cons_succ]
      refine wpAnyH_take (i := 12) (v := undef) rfl (by kernel_rfl) (by kernel_rfl) (by kernel_rfl) (fun _ _ _ h => h) (Or.inr ⟨by rfl, rfl⟩) (by assumption) ?_
      try simp only [Act.put, List.setIfInBounds_toArray, List.set_cons_zero, List.set_cons_succ, List.getElem_toArray, List.getElem_cons_zero, List.getElem_cons_succ]
      refine wpAnyH_take (i := 13) (v := undef) rfl (by kernel_rfl) (by kernel_rfl) (by kernel_rfl) (fun _ _ _ h => h) (Or.inr ⟨by rfl, rfl⟩) (by assumption) ?_
      try simp only [Act.put, List.setIfInBounds_toArray, List.set_cons_zero, List.set_cons_succ, List.getElem_toArray, List.getElem_cons_zero, List.getElem_cons_succ]
      refine wpAnyH_take (i := 14) (v := ?_) rfl (by kernel_rfl) (by kernel_rfl) (by kernel_rfl) (fun _ _ _ h => h) (Or.inl ⟨by rfl, ?_⟩) (by assumption) ?_
      rotate_left
      · intro w hSw
        (try dsimp only at hSw)
        go_simp
        try with_reducible rfl
      try simp only [Act.put, List.setIfInBounds_toArray, List.set_cons_zero, List.set_cons_succ, List.getElem_toArray, List.getElem_cons_zero, List.getElem_cons_succ]
      refine wpAnyH_take (i := 15) (v := ?_) rfl (by kernel_rfl) (by kernel_rfl) (by kernel_rfl) (fun _ _ _ h => h) (Or.inl ⟨by rfl, ?_⟩) (by assumption) ?_
      rotate_left
      · intro w hSw
        (try dsimp only at hSw)
        go_simp
        try with_reducible rfl
      try simp only [Act.put, List.setIfInBounds_toArray, List.set_cons_zero, List.set_cons_succ, List.getElem_toArray, List.getElem_cons_zero, List.getElem_cons_succ]
      refine wpAnyH_done (by kernel_rfl) ?_ _
      clear hHeld
      go_wp2_with fail
      go_ret
      refine ⟨?_, HB1.out.drew.drew⟩
      have hf := HF.out
      rw [decide_eq_false_iff_not] at hf
      rw [show verB es (k, m) sig = false by rw [verB, decide_eq_false_iff_not]; exact fun h => hf h.1]; rfl
    · have hm : (k, m) ∈ es := by simpa using HF.out
      obtain rfl : (I : Int) = J := by rw [← HJ.out, if_pos hm]
      have HV : Hid (verB es (k, m) sig = decide ((I : Int) = x + y * 256)) := by
        show _ = _
        rw [ver_bytes (hIl rfl) hxo hyo, verB, HI.out, HSIG.out]; simp only [hm, true_and]
      clear hm
      go_wp2_with fail
      refine wp_region_held_drew (S := fun w' => w'.cell? ⟨bb, o, none⟩ = some (.int .u8 x) ∧ w'.cell? ⟨bb, o + 1, none⟩ = some (.int .u8 y)) (by kernel_rfl) ⟨hx1, hy1⟩ (fun hHeld => ?_)
      refine wpAnyH_take (i := 0) (v := ?_) rfl (by kernel_rfl) (by kernel_rfl) (by kernel_rfl) (fun _ _ _ h => h) (Or.inl ⟨by rfl, ?_⟩) (by assumption) ?_
      rotate_left
      · intro w hSw
        (try dsimp only at hSw)
        go_simp
        try with_reducible rfl
      try simp only [Act.put, List.setIfInBounds_toArray, List.set_cons_zero, List.set_cons_succ, List.getElem_toArray, List.getElem_cons_zero]
      refine wpAnyH_take (i := 1) (v := ?_) rfl (by kernel_rfl) (by kernel_rfl) (by kernel_rfl) (fun _ _ _ h => h) (Or.inl ⟨by rfl, ?_⟩) (by assumption) ?_
      rotate_left
      · intro w hSw
        (try dsimp only at hSw)
        go_simp
        try with_reducible rfl
      try simp only [Act.put, List.setIfInBounds_toArray, List.set_cons_zero, List.set_cons_succ, List.getElem_toArray, List.getElem_cons_zero, List.getElem_cons_succ]
      refine wpAnyH_take (i := 2) (v := ?_) rfl (by kernel_rfl) (by kernel_rfl) (by kernel_rfl) (fun _ _ _ h => h) (Or.inl ⟨by rfl, ?_⟩) (by assumption) ?_
      rotate_left
      · intro w hSw
        (try dsimp only at hSw)
        go_simp
        try with_reducible rfl
      try simp only [Act.put, List.setIfInBounds_toArray, List.set_cons_zero, List.set_cons_succ, List.getElem_toArray, List.getElem_cons_zero, List.getElem_cons_succ]
      refine wpAnyH_take (i := 3) (v := ?_) rfl (by kernel_rfl) (by kernel_rfl) (by kernel_rfl) (fun _ _ _ h => h) (Or.inl ⟨by rfl, ?_⟩) (by assumption) ?_
      rotate_left
      · intro w hSw
        (try dsimp only at hSw)
        go_simp
        try with_reducible rfl
      try simp only [Act.put, List.setIfInBounds_toArray, List.set_cons_zero, List.set_cons_succ, List.getElem_toArray, List.getElem_cons_zero, List.getElem_cons_succ]
      refine wpAnyH_take (i := 4) (v := ?_) rfl (by kernel_rfl) (by kernel_rfl) (by kernel_rfl) (fun _ _ _ h => h) (Or.inl ⟨by rfl, ?_⟩) (by assumption) ?_
      rotate_left
      · intro w hSw
        (try dsimp only at hSw)
        go_simp
        try with_reducible rfl
      try simp only [Act.put, List.setIfInBounds_toArray, List.set_cons_zero, List.set_cons_succ, List.getElem_toArray, List.getElem_cons_zero, List.getElem_cons_succ]
      refine wpAnyH_take (i := 5) (v := ?_) rfl (by kernel_rfl) (by kernel_rfl) (by kernel_rfl) (fun _ _ _ h => h) (Or.inl ⟨by rfl, ?_⟩) (by assumption) ?_
      rotate_left
      · intro w hSw
        have hcell := hSw.1
        clear hSw
        go_simp
        try with_reducible rfl
      try simp only [Act.put, List.setIfInBounds_toArray, List.set_cons_zero, List.set_cons_succ, List.getElem_toArray, List.getElem_cons_zero, List.getElem_cons_succ]
      refine wpAnyH_take (i := 6) (v := ?_) rfl (by kernel_rfl) (by kernel_rfl) (by kernel_rfl) (fun _ _ _ h => h) (Or.inl ⟨by rfl, ?_⟩) (by assumption) ?_
      rotate_left
      · intro w hSw
        (try dsimp only at hSw)
        go_simp
        try with_reducible rfl
      try simp only [Act.put, List.setIfInBounds_toArray, List.set_cons_zero, List.set_cons_succ, List.getElem_toArray, List.getElem_cons_zero, List.getElem_cons_succ]
      refine wpAnyH_take (i := 7) (v := ?_) rfl (by kernel_rfl) (by kernel_rfl) (by kernel_rfl) (fun _ _ _ h => h) (Or.inl ⟨by rfl, ?_⟩) (by assumption) ?_
      rotate_left
      · intro w hSw
        (try dsimp only at hSw)
        go_simp
        try with_reducible rfl
      try simp only [Act.put, List.setIfInBounds_toArray, List.set_cons_zero, List.set_cons_succ, List.getElem_toArray, List.getElem_cons_zero, List.getElem_cons_succ]
      refine wpAnyH_take (i := 8) (v := ?_) rfl (by kernel_rfl) (by kernel_rfl) (by kernel_rfl) (fun _ _ _ h => h) (Or.inl ⟨by rfl, ?_⟩) (by assumption) ?_
      rotate_left
      · intro w hSw
        (try dsimp only at hSw)
        go_simp
        try with_reducible rfl
      try simp only [Act.put, List.setIfInBounds_toArray, List.set_cons_zero, List.set_cons_succ, List.getElem_toArray, List.getElem_cons_zero, List.getElem_cons_succ]
      refine wpAnyH_take (i := 9) (v := ?_) rfl (by kernel_rfl) (by kernel_rfl) (by kernel_rfl) (fun _ _ _ h => h) (Or.inl ⟨by rfl, ?_⟩) (by assumption) ?_
      rotate_left
      · intro w hSw
        have hcell := hSw.2
        clear hSw
        go_simp
        try with_reducible rfl
      try simp only [Act.put, List.setIfInBounds_toArray, List.set_cons_zero, List.set_cons_succ, List.getElem_toArray, List.getElem_cons_zero, List.getElem_cons_succ]
      refine wpAnyH_take (i := 10) (v := ?_) rfl (by kernel_rfl) (by kernel_rfl) (by kernel_rfl) (fun _ _ _ h => h) (Or.inl ⟨by rfl, ?_⟩) (by assumption) ?_
      rotate_left
      · intro w hSw
        (try dsimp only at hSw)
        go_simp
        try with_reducible rfl
      try simp only [Act.put, List.setIfInBounds_toArray, List.set_cons_zero, List.set_cons_succ, List.getElem_toArray, List.getElem_cons_zero, List.getElem_cons_succ]
      refine wpAnyH_take (i := 11) (v := ?_) rfl (by kernel_rfl) (by kernel_rfl) (by kernel_rfl) (fun _ _ _ h => h) (Or.inl ⟨by rfl, ?_⟩) (by assumption) ?_
      rotate_left
      · intro w hSw
        (try dsimp only at hSw)
        go_simp
        try with_reducible rfl
      try simp only [Act.put, List.setIfInBounds_toArray, List.set_cons_zero, List.set_cons_succ, List.getElem_toArray, List.getElem_cons_zero, List.getElem_cons_succ]
      refine wpAnyH_take (i := 12) (v := ?_) rfl (by kernel_rfl) (by kernel_rfl) (by kernel_rfl) (fun _ _ _ h => h) (Or.inl ⟨by rfl, ?_⟩) (by assumption) ?_
      rotate_left
      · intro w hSw
        (try dsimp only at hSw)
        go_simp
        try with_reducible rfl
      try simp only [Act.put, List.setIfInBounds_toArray, List.set_cons_zero, List.set_cons_succ, List.getElem_toArray, List.getElem_cons_zero, List.getElem_cons_succ]
      refine wpAnyH_take (i := 13) (v := ?_) rfl (by kernel_rfl) (by kernel_rfl) (by kernel_rfl) (fun _ _ _ h => h) (Or.inl ⟨by rfl, ?_⟩) (by assumption) ?_
      rotate_left
      · intro w hSw
        (try dsimp only at hSw)
        go_simp
        try with_reducible rfl
      try simp only [Act.put, List.setIfInBounds_toArray, List.set_cons_zero, List.set_cons_succ, List.getElem_toArray, List.getElem_cons_zero, List.getElem_cons_succ]
      refine wpAnyH_take (i := 14) (v := ?_) rfl (by kernel_rfl) (by kernel_rfl) (by kernel_rfl) (fun _ _ _ h => h) (Or.inl ⟨by rfl, ?_⟩) (by assumption) ?_
      rotate_left
      · intro w hSw
        (try dsimp only at hSw)
        go_simp
        try with_reducible rfl
      try simp only [Act.put, List.setIfInBounds_toArray, List.set_cons_zero, List.set_cons_succ, List.getElem_toArray, List.getElem_cons_zero, List.getElem_cons_succ]
      refine wpAnyH_take (i := 15) (v := ?_) rfl (by kernel_rfl) (by kernel_rfl) (by kernel_rfl) (fun _ _ _ h => h) (Or.inl ⟨by rfl, ?_⟩) (by assumption) ?_
      rotate_left
      · intro w hSw
        (try dsimp only at hSw)
        go_simp
        try with_reducible rfl
      try simp only [Act.put, List.setIfInBounds_toArray, List.set_cons_zero, List.set_cons_succ, List.getElem_toArray, List.getElem_cons_zero, List.getElem_cons_succ]
      refine wpAnyH_done (by kernel_rfl) ?_ _
      clear hHeld
      go_wp2_with fail
      go_ret
      refine ⟨?_, HB1.out.drew.drew⟩
      rw [HV.out]; rfl
  · have h2 : ((N : Int) != 2) = true := by simp; omega
    have HV : Hid (verB es (k, m) sig = false) := by
      show _ = _
      rw [verB, decide_eq_false_iff_not]
      rintro ⟨_, h⟩
      rw [h] at hlen; exact hN (by rw [← hlen]; rfl)
    go_enter Try.func29, Try.ntmps29
    go_upto_region 1 with fail
    rw [HW.out]
    go_wp2_with fail
    go_ret
    exact ⟨by rw [HV.out]; rfl, HB1.out⟩
end Go.Proofs.Ythibihjblodfmaa
