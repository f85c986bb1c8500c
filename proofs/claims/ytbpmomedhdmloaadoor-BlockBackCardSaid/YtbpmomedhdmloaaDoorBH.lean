/- Transactions and blocks compared: the program's and the document's. -/
import Derived.Test.YtbpmomedhdmloaaDoorBE
namespace Go.Proofs.YtbpmomedhdmloaaDoor
set_option linter.unusedSimpArgs false
set_option linter.unusedVariables false
open Go.RowKit Go.Maps

def sameT (t u : TxT) : Bool := eqL t.f u.f && (t.n == u.n) && (t.e == u.e) && (t.k == u.k) && eqL t.b u.b && eqL t.s u.s
set_option maxRecDepth 20000 in
set_option maxHeartbeats 4000000 in
theorem txSame_any (w : World) (cs : List Value) (t : TxT) (ds : List Value) (u : TxT) (ht : Txg w cs t) (hu : Txg w ds u) :
    Calls Tryd.prog 40 #[.agg cs.toArray, .agg ds.toArray] w fun e w' => e = .returned (.bool (sameT t u)) ∧ Below w.heap.size w w' := by
  obtain ⟨⟨A, B, N, C, M, D, rfl, s1, s2, hn1, hn2⟩, ok⟩ := ht
  obtain ⟨⟨A', B', N', C', M', D', rfl, s1', s2', hn1', hn2'⟩, ok'⟩ := hu
  obtain ⟨l, hl⟩ : ∃ x, txC t (.slice A N C) (.slice B M D) = x := ⟨_, rfl⟩
  obtain ⟨X, hX⟩ : ∃ X, l.toArray = X := ⟨_, rfl⟩
  obtain ⟨l', hl'⟩ : ∃ x, txC u (.slice A' N' C') (.slice B' M' D') = x := ⟨_, rfl⟩
  obtain ⟨Y, hY⟩ : ∃ X, l'.toArray = X := ⟨_, rfl⟩
  obtain ⟨z, hz⟩ : ∃ z, w.heap.size = z := ⟨_, rfl⟩
  obtain ⟨w1, hw1⟩ : ∃ w1, (w.alloc (.cells X 47)).alloc (.cells Y 47) = w1 := ⟨_, rfl⟩
  have hb1 : Below w.heap.size w w1 := hw1 ▸ (below_new w _).alloc (by simp) _
  have kx : Bk w1 z 47 l := hw1 ▸ (Bk.at_ w _ X hz (by rw [← hX])).alloc _
  have ky : Bk w1 (z + 1) 47 l' := hw1 ▸ Bk.at_ _ _ Y (by simp [hz]) (by rw [← hY])
  have hm := tx_mem ok.f (by rw [hl]; exact kx)
  have hm' := tx_mem ok'.f (by rw [hl']; exact ky)
  have h8 := hm.c8; have h9 := hm.c9; have h10 := hm.c10; have h11 := hm.c11; have h12 := hm.c12
  have k8 := hm'.c8; have k9 := hm'.c9; have k10 := hm'.c10; have k11 := hm'.c11; have k12 := hm'.c12
  simp only [Nat.zero_add] at h8 h9 h10 h11 h12 k8 k9 k10 k11 k12
  have HR0 := Lib.hid hm.r0; have HR0' := Lib.hid hm'.r0
  have HW := Lib.hid hw1; have HBB1 := Lib.hid hb1; have HZ := Lib.hid hz; have HTO := Lib.hid ok.f; have HUO := Lib.hid ok'.f
  have HS1 := Lib.hid (s1.later hb1); have HS2 := Lib.hid (s2.later hb1); have HS1' := Lib.hid (s1'.later hb1); have HS2' := Lib.hid (s2'.later hb1)
  have HTB := Lib.hid ok.b; have HTS := Lib.hid ok.s; have HUB := Lib.hid ok'.b; have HUS := Lib.hid ok'.s
  have heq := dg_eqb t.f u.f ok.f ok'.f
  rw [hl, hX, hl', hY]
  have HSM : Hid (sameT t u = (eqL t.f u.f && (t.n == u.n) && (t.e == u.e) && (t.k == u.k) && eqL t.b u.b && eqL t.s u.s)) := rfl
  obtain ⟨b1, hb1'⟩ : ∃ b, eqL t.f u.f = b := ⟨_, rfl⟩
  obtain ⟨b2, hb2⟩ : ∃ b, (t.n == u.n) = b := ⟨_, rfl⟩
  obtain ⟨b3, hb3⟩ : ∃ b, (t.e == u.e) = b := ⟨_, rfl⟩
  obtain ⟨b4, hb4⟩ : ∃ b, (t.k == u.k) = b := ⟨_, rfl⟩
  obtain ⟨b5, hb5⟩ : ∃ b, eqL t.b u.b = b := ⟨_, rfl⟩
  obtain ⟨b6, hb6⟩ : ∃ b, eqL t.s u.s = b := ⟨_, rfl⟩
  rw [hb1', hb2, hb3, hb4, hb5, hb6] at HSM
  rw [hb1'] at heq
  have H5 := Lib.hid hb5; have H6 := Lib.hid hb6
  clear hl hX hl' hY hw1 hb1 kx ky hm hm' hz ok ok' s1 s2 s1' s2' hb1' hb5 hb6
  cases b1
  ·
    go_enter Tryd.func40, Tryd.ntmps40
    go_upto_region 1 with fail
    rw [HW.out, HZ.out]
    go_wp2_with (first
      | (with_reducible refine wpList_load_mid rfl 28 _ rfl z 0 rfl (dl t.f) _ HR0.out Tryd.underlying28 rfl (hdg_size _ HTO.out) ?_)
      | (with_reducible refine wpList_load_mid rfl 28 _ rfl (z + 1) 0 rfl (dl u.f) _ HR0'.out Tryd.underlying28 rfl (hdg_size _ HUO.out) ?_))
    go_ret
    exact ⟨by rw [HSM.out]; rfl, HBB1.out⟩
  cases b2
  ·
    go_enter Tryd.func40, Tryd.ntmps40
    go_upto_region 1 with fail
    rw [HW.out, HZ.out]
    go_wp2_with (first
      | (with_reducible refine wpList_load_mid rfl 28 _ rfl z 0 rfl (dl t.f) _ HR0.out Tryd.underlying28 rfl (hdg_size _ HTO.out) ?_)
      | (with_reducible refine wpList_load_mid rfl 28 _ rfl (z + 1) 0 rfl (dl u.f) _ HR0'.out Tryd.underlying28 rfl (hdg_size _ HUO.out) ?_))
    go_ret
    exact ⟨by rw [HSM.out]; rfl, HBB1.out⟩
  cases b3
  ·
    go_enter Tryd.func40, Tryd.ntmps40
    go_upto_region 1 with fail
    rw [HW.out, HZ.out]
    go_wp2_with (first
      | (with_reducible refine wpList_load_mid rfl 28 _ rfl z 0 rfl (dl t.f) _ HR0.out Tryd.underlying28 rfl (hdg_size _ HTO.out) ?_)
      | (with_reducible refine wpList_load_mid rfl 28 _ rfl (z + 1) 0 rfl (dl u.f) _ HR0'.out Tryd.underlying28 rfl (hdg_size _ HUO.out) ?_))
    go_ret
    exact ⟨by rw [HSM.out]; rfl, HBB1.out⟩
  cases b4
  ·
    go_enter Tryd.func40, Tryd.ntmps40
    go_upto_region 1 with fail
    rw [HW.out, HZ.out]
    go_wp2_with (first
      | (with_reducible refine wpList_load_mid rfl 28 _ rfl z 0 rfl (dl t.f) _ HR0.out Tryd.underlying28 rfl (hdg_size _ HTO.out) ?_)
      | (with_reducible refine wpList_load_mid rfl 28 _ rfl (z + 1) 0 rfl (dl u.f) _ HR0'.out Tryd.underlying28 rfl (hdg_size _ HUO.out) ?_))
    go_ret
    exact ⟨by rw [HSM.out]; rfl, HBB1.out⟩
  go_enter Tryd.func40, Tryd.ntmps40
  go_upto_region 1 with fail
  rw [HW.out, HZ.out]
  go_wp2_with (first
    | (with_reducible refine wpList_load_mid rfl 28 _ rfl z 0 rfl (dl t.f) _ HR0.out Tryd.underlying28 rfl (hdg_size _ HTO.out) ?_)
    | (with_reducible refine wpList_load_mid rfl 28 _ rfl (z + 1) 0 rfl (dl u.f) _ HR0'.out Tryd.underlying28 rfl (hdg_size _ HUO.out) ?_))
  refine (bytesEq_any w1 _ _ A A' N N' C C' t.b u.b HTB.out HUB.out HS1.out HS1'.out).mono ?_
  rintro e w2 ⟨rfl, hw2⟩; subst hw2
  rw [H5.out]
  cases b5
  · go_wp2_with fail
    go_ret
    exact ⟨by rw [HSM.out]; rfl, HBB1.out⟩
  go_wp2_with fail
  refine (bytesEq_any w1 _ _ B B' M M' D D' t.s u.s HTS.out HUS.out HS2.out HS2'.out).mono ?_
  rintro e w2 ⟨rfl, hw2⟩; subst hw2
  rw [H6.out]
  go_wp2_with fail
  go_ret
  exact ⟨by rw [HSM.out]; cases b6 <;> rfl, HBB1.out⟩
set_option maxRecDepth 20000 in
set_option maxHeartbeats 4000000 in
theorem rtxSame_any (w : World) (cs : List Value) (t : TxT) (ds : List Value) (u : TxT) (ht : Txg w cs t) (hu : Txg w ds u) :
    Calls Tryd.prog 41 #[.agg cs.toArray, .agg ds.toArray] w fun e w' => e = .returned (.bool (sameT t u)) ∧ Below w.heap.size w w' := by
  obtain ⟨⟨A, B, N, C, M, D, rfl, s1, s2, hn1, hn2⟩, ok⟩ := ht
  obtain ⟨⟨A', B', N', C', M', D', rfl, s1', s2', hn1', hn2'⟩, ok'⟩ := hu
  obtain ⟨l, hl⟩ : ∃ x, txC t (.slice A N C) (.slice B M D) = x := ⟨_, rfl⟩
  obtain ⟨X, hX⟩ : ∃ X, l.toArray = X := ⟨_, rfl⟩
  obtain ⟨l', hl'⟩ : ∃ x, txC u (.slice A' N' C') (.slice B' M' D') = x := ⟨_, rfl⟩
  obtain ⟨Y, hY⟩ : ∃ X, l'.toArray = X := ⟨_, rfl⟩
  obtain ⟨z, hz⟩ : ∃ z, w.heap.size = z := ⟨_, rfl⟩
  obtain ⟨w1, hw1⟩ : ∃ w1, (w.alloc (.cells X 42)).alloc (.cells Y 42) = w1 := ⟨_, rfl⟩
  have hb1 : Below w.heap.size w w1 := hw1 ▸ (below_new w _).alloc (by simp) _
  have kx : Bk w1 z 42 l := hw1 ▸ (Bk.at_ w _ X hz (by rw [← hX])).alloc _
  have ky : Bk w1 (z + 1) 42 l' := hw1 ▸ Bk.at_ _ _ Y (by simp [hz]) (by rw [← hY])
  have hm := tx_mem ok.f (by rw [hl]; exact kx)
  have hm' := tx_mem ok'.f (by rw [hl']; exact ky)
  have h8 := hm.c8; have h9 := hm.c9; have h10 := hm.c10; have h11 := hm.c11; have h12 := hm.c12
  have k8 := hm'.c8; have k9 := hm'.c9; have k10 := hm'.c10; have k11 := hm'.c11; have k12 := hm'.c12
  simp only [Nat.zero_add] at h8 h9 h10 h11 h12 k8 k9 k10 k11 k12
  have HR0 := Lib.hid hm.r0; have HR0' := Lib.hid hm'.r0
  have HW := Lib.hid hw1; have HBB1 := Lib.hid hb1; have HZ := Lib.hid hz; have HTO := Lib.hid ok.f; have HUO := Lib.hid ok'.f
  have HS1 := Lib.hid (s1.later hb1); have HS2 := Lib.hid (s2.later hb1); have HS1' := Lib.hid (s1'.later hb1); have HS2' := Lib.hid (s2'.later hb1)
  have HTB := Lib.hid ok.b; have HTS := Lib.hid ok.s; have HUB := Lib.hid ok'.b; have HUS := Lib.hid ok'.s
  have heq := rdg_eqb t.f u.f ok.f ok'.f
  rw [hl, hX, hl', hY]
  have HSM : Hid (sameT t u = (eqL t.f u.f && (t.n == u.n) && (t.e == u.e) && (t.k == u.k) && eqL t.b u.b && eqL t.s u.s)) := rfl
  obtain ⟨b1, hb1'⟩ : ∃ b, eqL t.f u.f = b := ⟨_, rfl⟩
  obtain ⟨b2, hb2⟩ : ∃ b, (t.n == u.n) = b := ⟨_, rfl⟩
  obtain ⟨b3, hb3⟩ : ∃ b, (t.e == u.e) = b := ⟨_, rfl⟩
  obtain ⟨b4, hb4⟩ : ∃ b, (t.k == u.k) = b := ⟨_, rfl⟩
  obtain ⟨b5, hb5⟩ : ∃ b, eqL t.b u.b = b := ⟨_, rfl⟩
  obtain ⟨b6, hb6⟩ : ∃ b, eqL t.s u.s = b := ⟨_, rfl⟩
  rw [hb1', hb2, hb3, hb4, hb5, hb6] at HSM
  rw [hb1'] at heq
  have H5 := Lib.hid hb5; have H6 := Lib.hid hb6
  clear hl hX hl' hY hw1 hb1 kx ky hm hm' hz ok ok' s1 s2 s1' s2' hb1' hb5 hb6
  cases b1
  ·
    go_enter Tryd.func41, Tryd.ntmps41
    go_upto_region 1 with fail
    rw [HW.out, HZ.out]
    go_wp2_with (first
      | (with_reducible refine wpList_load_mid rfl 22 _ rfl z 0 rfl (dl t.f) _ HR0.out Tryd.underlying22 rfl (r8d_size _ HTO.out) ?_)
      | (with_reducible refine wpList_load_mid rfl 22 _ rfl (z + 1) 0 rfl (dl u.f) _ HR0'.out Tryd.underlying22 rfl (r8d_size _ HUO.out) ?_))
    go_ret
    exact ⟨by rw [HSM.out]; rfl, HBB1.out⟩
  cases b2
  ·
    go_enter Tryd.func41, Tryd.ntmps41
    go_upto_region 1 with fail
    rw [HW.out, HZ.out]
    go_wp2_with (first
      | (with_reducible refine wpList_load_mid rfl 22 _ rfl z 0 rfl (dl t.f) _ HR0.out Tryd.underlying22 rfl (r8d_size _ HTO.out) ?_)
      | (with_reducible refine wpList_load_mid rfl 22 _ rfl (z + 1) 0 rfl (dl u.f) _ HR0'.out Tryd.underlying22 rfl (r8d_size _ HUO.out) ?_))
    go_ret
    exact ⟨by rw [HSM.out]; rfl, HBB1.out⟩
  cases b3
  ·
    go_enter Tryd.func41, Tryd.ntmps41
    go_upto_region 1 with fail
    rw [HW.out, HZ.out]
    go_wp2_with (first
      | (with_reducible refine wpList_load_mid rfl 22 _ rfl z 0 rfl (dl t.f) _ HR0.out Tryd.underlying22 rfl (r8d_size _ HTO.out) ?_)
      | (with_reducible refine wpList_load_mid rfl 22 _ rfl (z + 1) 0 rfl (dl u.f) _ HR0'.out Tryd.underlying22 rfl (r8d_size _ HUO.out) ?_))
    go_ret
    exact ⟨by rw [HSM.out]; rfl, HBB1.out⟩
  cases b4
  ·
    go_enter Tryd.func41, Tryd.ntmps41
    go_upto_region 1 with fail
    rw [HW.out, HZ.out]
    go_wp2_with (first
      | (with_reducible refine wpList_load_mid rfl 22 _ rfl z 0 rfl (dl t.f) _ HR0.out Tryd.underlying22 rfl (r8d_size _ HTO.out) ?_)
      | (with_reducible refine wpList_load_mid rfl 22 _ rfl (z + 1) 0 rfl (dl u.f) _ HR0'.out Tryd.underlying22 rfl (r8d_size _ HUO.out) ?_))
    go_ret
    exact ⟨by rw [HSM.out]; rfl, HBB1.out⟩
  go_enter Tryd.func41, Tryd.ntmps41
  go_upto_region 1 with fail
  rw [HW.out, HZ.out]
  go_wp2_with (first
    | (with_reducible refine wpList_load_mid rfl 22 _ rfl z 0 rfl (dl t.f) _ HR0.out Tryd.underlying22 rfl (r8d_size _ HTO.out) ?_)
    | (with_reducible refine wpList_load_mid rfl 22 _ rfl (z + 1) 0 rfl (dl u.f) _ HR0'.out Tryd.underlying22 rfl (r8d_size _ HUO.out) ?_))
  refine (rBytesEq_any _ A A' N N' C C' t.b u.b HS1.out HS1'.out).mono ?_
  rintro e w2 ⟨rfl, q2, hw2⟩; have hbn : Below w1.heap.size w1 w2 := hw2 ▸ below_draws w1 _ q2; have HB2 := Lib.hid (below_then HBB1.out hbn); have HS3 := Lib.hid (HS2.out.later hbn); have HS3' := Lib.hid (HS2'.out.later hbn); have c12 := (hbn.cell (p := ⟨z, 12, none⟩) (World.block_lt_of_cell? _ _ h12)).trans h12; have d12 := (hbn.cell (p := ⟨z + 1, 12, none⟩) (World.block_lt_of_cell? _ _ k12)).trans k12; clear hw2 hbn h12 k12 h8 h9 h10 h11 k8 k9 k10 k11
  rw [H5.out]
  cases b5
  · go_wp2_with fail
    go_ret
    exact ⟨by rw [HSM.out]; rfl, HB2.out⟩
  go_wp2_with fail
  refine (rBytesEq_any _ B B' M M' D D' t.s u.s HS3.out HS3'.out).mono ?_
  rintro e w3 ⟨rfl, q3, hw3⟩; have HB3 : Hid (Below w.heap.size w w3) := hw3 ▸ below_then HB2.out (below_draws w2 _ q3); clear hw3
  rw [H6.out]
  go_wp2_with fail
  go_ret
  exact ⟨by rw [HSM.out]; cases b6 <;> rfl, HB3.out⟩
end Go.Proofs.YtbpmomedhdmloaaDoor
