/- Who signs, and what is shown: what stands while keys are taken. -/
import Derived.Test.YtakfdlokgddaoaaDoorWK
namespace Go.Proofs.YtakfdlokgddaoaaDoor
set_option linter.unusedSimpArgs false
set_option linter.unusedVariables false
open Go.RowKit Go.Maps

theorem own_two {w : World} {base size n base' size' n' q : Nat} {e e' : TypeId} {v v' : Value} {xs xs' : List Value} (h : w.ownsRow base e size v n xs) (h' : w.ownsRow base' e' size' v' n' xs') (he : e' ≠ e) (hq : v.ownBlock = some q) : v'.ownBlock ≠ some q := by
  rcases own_bk h with ⟨rfl, _⟩ | ⟨g', cap, zs, rfl, _, hb, _⟩
  · simp [Value.ownBlock] at hq
  · simp [Value.ownBlock] at hq; subst hq; exact own_bk_ne h' hb he
theorem own_lt {w : World} {base size n q : Nat} {e : TypeId} {v : Value} {xs : List Value} (h : w.ownsRow base e size v n xs) (hq : v.ownBlock = some q) : base ≤ q ∧ q < w.heap.size := World.ownsRow.lt h q hq
section
variable {w w' : World} {lo g b : Nat} {V : Value} {T : Tr} {tlo thi : Nat} {sec : List Int} {h : Nat} {L : List (List Int)}
theorem RingAt.mono (r : RingAt w lo g b V T tlo thi sec h L) {lo' : Nat} (hl : lo' ≤ lo) : RingAt w lo' g b V T tlo thi sec h L :=
  ⟨r.led.mono hl, r.tree, Nat.le_trans hl r.tl, r.tg, r.tb, r.tv, r.hh, r.hs, r.le⟩
/-- Another's row, while the ring turns. -/
theorem own_chg {base size n : Nat} {e : TypeId} {v : Value} {xs : List Value} (r : RingAt w lo g b V T tlo thi sec h L) (ho : w.ownsRow base e size v n xs) (hc : Chg w w' g b V) (he : e ≠ 67) (hv : ∀ q, v.ownBlock = some q → V.ownBlock ≠ some q) : w'.ownsRow base e size v n xs :=
  own_eq ho fun q hq => hc.blk q (own_lt ho hq).2 (fun e2 => own_bk_ne ho r.led.bk he (e2 ▸ hq)) (fun e2 => map_apart r.led.map ho (e2 ▸ hq.symm)) (hv q hq)
end
/-- What stands: the ring, what is known by, the messages, the signatures, bytes. -/
structure Wl (w : World) (lo : Nat) (sec : List Int) (L : List (List Int)) (g b : Nat) (V : Value) (T : Tr) (tlo thi : Nat) (gp : Nat) (R : List Int) (mv : Value) (ms : List (List Int)) (tv : Value) (vs : List Value) (Bs : List (Value × List Int)) : Prop where
  ring : RingAt w lo g b V T tlo thi sec 3 L
  pb : Bk w gp 23 (dl R)
  rm : w.ownsRow lo 23 8 mv ms.length (cellsD ms)
  rt : w.ownsRow lo 29 1 tv vs.length vs
  bs : ∀ p ∈ Bs, w.ownsRow lo 5 1 p.1 p.2.length (p.2.map (.int .u8))
  pv : V.ownBlock ≠ some gp
  pm : mv.ownBlock ≠ some gp
  av : ∀ q, mv.ownBlock = some q → V.ownBlock ≠ some q ∧ (q < tlo ∨ thi ≤ q)
  at_ : ∀ q, tv.ownBlock = some q → (q < tlo ∨ thi ≤ q)
  mo : DsOk ms
  lw : lo ≤ w.heap.size
section
variable {w w' : World} {lo g b gp : Nat} {V mv tv : Value} {T : Tr} {tlo thi : Nat} {sec R : List Int} {L ms : List (List Int)} {vs : List Value} {Bs : List (Value × List Int)}
theorem Wl.later (k : Wl w lo sec L g b V T tlo thi gp R mv ms tv vs Bs) (hb : Below w.heap.size w w') : Wl w' lo sec L g b V T tlo thi gp R mv ms tv vs Bs :=
  ⟨k.ring.later hb, k.pb.later hb, own_keep k.rm hb, own_keep k.rt hb, fun p hp => own_keep (k.bs p hp) hb, k.pv, k.pm, k.av, k.at_, k.mo, Nat.le_trans k.lw hb.size⟩
theorem Wl.turn (k : Wl w lo sec L g b V T tlo thi gp R mv ms tv vs Bs) {V' : Value} {L' : List (List Int)} (hr : RingAt w' lo g b V' T tlo thi sec 3 L') (hc : Chg w w' g b V) (hv : NewV w V V') : Wl w' lo sec L' g b V' T tlo thi gp R mv ms tv vs Bs := by
  refine ⟨hr, Bk.chg k.pb hc (fun e => (Bk.ne_ k.pb k.ring.led.bk (by decide)) e) (fun e => map_ne k.ring.led.map k.pb e.symm) k.pv, own_chg k.ring k.rm hc (by decide) (fun q hq => (k.av q hq).1), own_chg k.ring k.rt hc (by decide) (fun q hq => own_two k.rt k.ring.led.row (by decide) hq), fun p hp => own_chg k.ring (k.bs p hp) hc (by decide) (fun q hq => own_two (k.bs p hp) k.ring.led.row (by decide) hq), ?_, k.pm, ?_, k.at_, k.mo, Nat.le_trans k.lw hc.size⟩
  · exact hv.ne k.pb.lt k.pv
  · exact fun q hq => ⟨hv.ne (own_lt k.rm hq).2 (k.av q hq).1, (k.av q hq).2⟩
theorem Wl.again (k : Wl w lo sec L g b V T tlo thi gp R mv ms tv vs Bs) {g' b' : Nat} {V' : Value} {T' : Tr} {tlo' thi' : Nat} {L' : List (List Int)} (hr : RingAt w' w.heap.size g' b' V' T' tlo' thi' sec 3 L') (hb : Below w.heap.size w w') : Wl w' lo sec L' g' b' V' T' tlo' thi' gp R mv ms tv vs Bs := by
  have hvl := hr.led.vlo
  have htl := hr.tl
  refine ⟨hr.mono k.lw, k.pb.later hb, own_keep k.rm hb, own_keep k.rt hb, fun p hp => own_keep (k.bs p hp) hb, ?_, k.pm, ?_, ?_, k.mo, Nat.le_trans k.lw hb.size⟩
  · intro e; have := hvl _ e; have := k.pb.lt; omega
  · exact fun q hq => ⟨fun e => by have := hvl _ e; have := (own_lt k.rm hq).2; omega, .inl (by have := (own_lt k.rm hq).2; omega)⟩
  · exact fun q hq => .inl (by have := (own_lt k.rt hq).2; omega)
theorem Wl.add (k : Wl w lo sec L g b V T tlo thi gp R mv ms tv vs Bs) {v : Value} {B : List Int} (ho : w.ownsRow lo 5 1 v B.length (B.map (.int .u8))) : Wl w lo sec L g b V T tlo thi gp R mv ms tv vs ((v, B) :: Bs) :=
  ⟨k.ring, k.pb, k.rm, k.rt, fun p hp => by
    rcases List.mem_cons.1 hp with hp | hp
    · subst hp; exact ho
    · exact k.bs p hp, k.pv, k.pm, k.av, k.at_, k.mo, k.lw⟩
theorem Wl.sub (k : Wl w lo sec L g b V T tlo thi gp R mv ms tv vs Bs) {Bs' : List (Value × List Int)} (hs : ∀ p ∈ Bs', p ∈ Bs) : Wl w lo sec L g b V T tlo thi gp R mv ms tv vs Bs' :=
  ⟨k.ring, k.pb, k.rm, k.rt, fun p hp => k.bs p (hs p hp), k.pv, k.pm, k.av, k.at_, k.mo, k.lw⟩
theorem ring_grown (r : RingAt w lo g b V T tlo thi sec 3 L) {v : Value} (hg : w.grownBy w' v.ownBlock) (h1 : ∀ q, v.ownBlock = some q → q ≠ g ∧ q ≠ b ∧ V.ownBlock ≠ some q ∧ (q < tlo ∨ thi ≤ q)) : RingAt w' lo g b V T tlo thi sec 3 L := by
  rcases hq : v.ownBlock with _ | q
  · rw [hq] at hg
    exact r.later ⟨hg.os, hg.tape, hg.output, hg.size, fun i hi => hg.block i hi (by simp)⟩
  · rw [hq] at hg
    obtain ⟨a, b, c, d⟩ := h1 q hq
    exact r.apart hg a b c d
theorem Wl.addM (k : Wl w lo sec L g b V T tlo thi gp R mv ms tv vs Bs) {m : List Int} (hm : DgOk m) {mv' : Value} (ho : w'.ownsRow lo 23 8 mv' (ms.length + 1) (cellsD ms ++ dl m)) (hg : w.grownBy w' mv.ownBlock) (ha : mv'.ownBlock = mv.ownBlock ∨ mv'.ownBlock = some w.heap.size) : Wl w' lo sec L g b V T tlo thi gp R mv' (ms ++ [m]) tv vs Bs := by
  have hth := k.ring.tree.hi_le
  refine ⟨ring_grown k.ring hg fun q hq => ⟨fun e => own_bk_ne k.rm k.ring.led.bk (by decide) (e ▸ hq), fun e => map_apart k.ring.led.map k.rm (e ▸ hq.symm), (k.av q hq).1, (k.av q hq).2⟩, k.pb.grown hg (fun e => k.pm e.symm), ?_, ?_, ?_, k.pv, ?_, ?_, k.at_, ?_, Nat.le_trans k.lw hg.size⟩
  · rw [List.length_append, cellsD_app, cellsD_one]; simpa [cellsD] using ho
  · exact own_eq k.rt fun q hq => hg.block q (own_lt k.rt hq).2 (fun e => own_two k.rt k.rm (by decide) hq e.symm)
  · exact fun p hp => own_eq (k.bs p hp) fun q hq => hg.block q (own_lt (k.bs p hp) hq).2 (fun e => own_two (k.bs p hp) k.rm (by decide) hq e.symm)
  · intro e
    rcases ha with ha | ha
    · exact k.pm (ha ▸ e)
    · rw [ha] at e; injection e with e; have := k.pb.lt; omega
  · intro q hq
    rcases ha with ha | ha
    · exact k.av q (ha ▸ hq)
    · rw [ha] at hq; injection hq with hq; subst hq
      exact ⟨fun e => by have := (World.ownsRow.lt k.ring.led.row _ e).2; omega, .inr hth⟩
  · intro d hd
    rcases List.mem_append.1 hd with hd | hd
    · exact k.mo d hd
    · rw [List.mem_singleton] at hd; subst hd; exact hm
theorem Wl.addT (k : Wl w lo sec L g b V T tlo thi gp R mv ms tv vs Bs) {v tv' : Value} (ho : w'.ownsRow lo 29 1 tv' (vs.length + 1) (vs ++ [v])) (hg : w.grownBy w' tv.ownBlock) (ha : tv'.ownBlock = tv.ownBlock ∨ tv'.ownBlock = some w.heap.size) : Wl w' lo sec L g b V T tlo thi gp R mv ms tv' (vs ++ [v]) Bs := by
  have hth := k.ring.tree.hi_le
  refine ⟨ring_grown k.ring hg fun q hq => ⟨fun e => own_bk_ne k.rt k.ring.led.bk (by decide) (e ▸ hq), fun e => map_apart k.ring.led.map k.rt (e ▸ hq.symm), own_two k.rt k.ring.led.row (by decide) hq, k.at_ q hq⟩, k.pb.grown hg (fun e => own_bk_ne k.rt k.pb (by decide) e.symm), ?_, ?_, ?_, k.pv, k.pm, k.av, ?_, k.mo, Nat.le_trans k.lw hg.size⟩
  · exact own_eq k.rm fun q hq => hg.block q (own_lt k.rm hq).2 (fun e => own_two k.rm k.rt (by decide) hq e.symm)
  · rw [List.length_append]; simpa using ho
  · exact fun p hp => own_eq (k.bs p hp) fun q hq => hg.block q (own_lt (k.bs p hp) hq).2 (fun e => own_two (k.bs p hp) k.rt (by decide) hq e.symm)
  · intro q hq
    rcases ha with ha | ha
    · exact k.at_ q (ha ▸ hq)
    · rw [ha] at hq; injection hq with hq; subst hq; exact .inr hth
end
/-- The signatures that are shown are of the messages. -/
structure Sgs (sec : List Int) (L ms : List (List Int)) (vs : List Value) (Bs : List (Value × List Int)) : Prop where
  len : vs.length = ms.length
  inL : ∀ m ∈ ms, m ∈ L
  sg : ∀ (j : Nat) (m : List Int), ms[j]? = some m → ∃ v, vs[j]? = some v ∧ (v, sgI sec 3 L m) ∈ Bs
theorem Sgs.nil (sec : List Int) (L : List (List Int)) (Bs : List (Value × List Int)) : Sgs sec L [] [] Bs := ⟨rfl, (fun m hm => by cases hm), (fun j m hj => by simp at hj)⟩
theorem Sgs.more {sec : List Int} {L ms : List (List Int)} {vs : List Value} {Bs Bs' : List (Value × List Int)} (k : Sgs sec L ms vs Bs) (hs : ∀ p ∈ Bs, p ∈ Bs') : Sgs sec L ms vs Bs' :=
  ⟨k.len, k.inL, fun j m hj => by obtain ⟨v, h1, h2⟩ := k.sg j m hj; exact ⟨v, h1, hs _ h2⟩⟩
theorem Sgs.step {sec : List Int} {L ms : List (List Int)} {vs : List Value} {Bs : List (Value × List Int)} (k : Sgs sec L ms vs Bs) (cap : Nat) (m : List Int) : Sgs sec (stepL cap L m) ms vs Bs :=
  ⟨k.len, fun x hx => (stepL_idx (k.inL x hx)).1, fun j x hj => by
    obtain ⟨v, h1, h2⟩ := k.sg j x hj
    refine ⟨v, h1, ?_⟩
    rw [sgI, (stepL_idx (cap := cap) (m := m) (k.inL x (List.mem_of_getElem? hj))).2]
    exact h2⟩
theorem Sgs.snoc {sec : List Int} {L ms : List (List Int)} {vs : List Value} {Bs : List (Value × List Int)} (k : Sgs sec L ms vs Bs) {m : List Int} (hm : m ∈ L) {v : Value} (hv : (v, sgI sec 3 L m) ∈ Bs) : Sgs sec L (ms ++ [m]) (vs ++ [v]) Bs := by
  refine ⟨by simp [k.len], fun x hx => ?_, fun j x hj => ?_⟩
  · rcases List.mem_append.1 hx with hx | hx
    · exact k.inL x hx
    · rw [List.mem_singleton] at hx; subst hx; exact hm
  · rcases Nat.lt_or_ge j ms.length with hl | hl
    · rw [List.getElem?_append_left hl] at hj
      obtain ⟨u, h1, h2⟩ := k.sg j x hj
      exact ⟨u, by rw [List.getElem?_append_left (by rw [k.len]; exact hl)]; exact h1, h2⟩
    · rw [List.getElem?_append_right hl] at hj
      have hj0 : j - ms.length = 0 := by
        have := (List.getElem?_eq_some_iff.1 hj).1; simp at this; omega
      rw [hj0] at hj
      simp at hj; subst hj
      exact ⟨v, by rw [List.getElem?_append_right (by rw [k.len]; exact hl), k.len, hj0]; rfl, hv⟩
theorem infoBsW : (Tryd.prog.info? 29).map (fun i => (i.zero, i.size, i.bytes)) = some (some (.slice none 0 0), 1, 24) := by kernel_rfl
theorem bs_partsw : ∃ i z, Tryd.prog.info? 29 = some i ∧ i.zero = some z ∧ i.size = 1 ∧ i.bytes = 24 ∧ z.cells.size = 1 := by
  obtain ⟨d0, h1, h2, h3, h4⟩ := info_parts infoBsW
  exact ⟨d0, _, h1, h2, h3, h4, rfl⟩
theorem bs_sw (A : Option Addr) (n c : Nat) (w : World) : (Instr.buildSlice 33 1 #[(0, .slice A n c)]).run Tryd.prog w = .ok (.slice (some ⟨w.heap.size, 0, none⟩) 1 1) (w.alloc (.cells ([Value.slice A n c]).toArray 29)) := by kernel_rfl
theorem row_at {w : World} {base n b o j : Nat} {c : Nat} {t : TypeId} {vs : List Value} {v : Value} (h : w.ownsRow base t 1 (.slice (some ⟨b, o, none⟩) n c) n vs) (hv : vs[j]? = some v) : w.cell? ⟨b, o + j, none⟩ = some v := by
  have hs := Sl.of_own h
  have hj := (List.getElem?_eq_some_iff.1 hv).1
  have hl := hs.len
  obtain ⟨b', o', e, _, hc⟩ := hs.spot (by omega) (by omega)
  injection e with e; injection e with e1 e2
  subst e1 e2
  exact hc j v hv
end Go.Proofs.YtakfdlokgddaoaaDoor
