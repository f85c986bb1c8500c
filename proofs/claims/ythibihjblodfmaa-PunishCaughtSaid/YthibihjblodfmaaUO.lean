/- Who signs two unlike ones is shown: what stands. -/
import Derived.Test.YthibihjblodfmaaUG
import Derived.Test.YthibihjblodfmaaUL
namespace Go.Proofs.Ythibihjblodfmaa
open Go.RowKit Go.Maps

/-- Another one signs it. -/
def csD (s : Int) (D : DeT) : DeT := { D with seat := wrap64 (s + 1) }
theorem csD_ok {w : World} {D : DeT} {A : Option Addr} {N : Nat} (h : DeOk w D A N) (s : Int) : DeOk w (csD s D) A N := ⟨h.sl, h.bo, h.bl, h.n0, h.n1, h.p0, h.p1⟩
theorem key_cs (s : Int) (D : DeT) : keyD (csD s D).seat ≠ keyD s := by
  intro h
  unfold keyD at h
  injection h with h _
  unfold csD wrap64 at h
  simp only at h
  omega
theorem build_de (s k n : Int) (A : Option Addr) (N C : Nat) (b : Bool) (w : World) : (Instr.build 70 #[(0, .int .i64 s), (1, .int .i64 k), (2, .int .i64 n), (3, .slice A N C), (4, .bool b)]).run Try.prog w = .ok (.agg (deC ⟨s, k, n, [], b, 0, false⟩ (.slice A N C)).toArray) w := by kernel_rfl
section
variable {w wk wn : World} {lo g d1 d2 : Nat} {v : Value} {ys : List (List Value × Tg)} {es es' : List Ent} {c1 c2 : List Value}
theorem FI.put' (h : FI w wk lo g v ys es) {nb : Nat} {cs cs' : List Value} (hp : Put wk wn nb 35 cs') (hx : Bk wk nb 35 cs) (hn : v.ownBlock ≠ some nb) (hl : lo ≤ nb) : FI w wn lo g v ys es :=
  ⟨own_only h.row hp.only hn, fun x hx' => (h.th x hx').grown hp.only hx (by decide), h.bk.put hp hx (by decide) (by decide), below_only h.hb hp.only h.hb.size (Nat.le_trans h.wl hl), Nat.le_trans h.lh hp.only.size, h.wl⟩
theorem FI.lt (h : FI w wk lo g v ys es) : ∀ q, v.ownBlock = some q → q < wk.heap.size := fun q hq => by
  rcases own_bk h.row with ⟨rfl, _⟩ | ⟨q', cap, zs, rfl, _, hb, _⟩
  · simp [Value.ownBlock] at hq
  · have : q' = q := by simpa [Value.ownBlock] using hq
    subst this; exact hb.lt
/-- Things that are signed, and two deeds. -/
structure CB (w wk : World) (lo g : Nat) (v : Value) (ys : List (List Value × Tg)) (es : List Ent) (d1 d2 : Nat) (c1 c2 : List Value) (z0 : Nat) : Prop where
  fi : FI w wk lo g v ys es
  b1 : Bk wk d1 70 c1
  b2 : Bk wk d2 70 c2
  sz : z0 ≤ wk.heap.size
  vb : ∀ q, v.ownBlock = some q → q < z0
  lz : lo ≤ z0
variable {z0 : Nat}
theorem CB.later (h : CB w wk lo g v ys es d1 d2 c1 c2 z0) (hb : Below wk.heap.size wk wn) : CB w wn lo g v ys es d1 d2 c1 c2 z0 :=
  ⟨h.fi.later hb, h.b1.later hb, h.b2.later hb, Nat.le_trans h.sz hb.size, h.vb, h.lz⟩
theorem CB.sign (h : CB w wk lo g v ys es d1 d2 c1 c2 z0) (hk : Keeps wk wn) (hb : Below lo wk wn) (hbk : BookAt wn lo g es') : CB w wn lo g v ys es' d1 d2 c1 c2 z0 :=
  ⟨h.fi.sign hk hb hbk, h.b1.keeps hk (by decide) (by decide), h.b2.keeps hk (by decide) (by decide), Nat.le_trans h.sz hb.size, h.vb, h.lz⟩
theorem CB.put (h : CB w wk lo g v ys es d1 d2 c1 c2 z0) {nb : Nat} {cs cs' : List Value} (hp : Put wk wn nb 35 cs') (hx : Bk wk nb 35 cs) (hz : z0 ≤ nb) : CB w wn lo g v ys es d1 d2 c1 c2 z0 :=
  ⟨h.fi.put' hp hx (fun e => by have := h.vb _ e; omega) (Nat.le_trans h.lz hz), h.b1.grown hp.only (fun e => by injection e with e; subst e; exact h.b1.ne_ hx (by decide) rfl), h.b2.grown hp.only (fun e => by injection e with e; subst e; exact h.b2.ne_ hx (by decide) rfl), Nat.le_trans h.sz hp.only.size, h.vb, h.lz⟩
end
theorem Ths.front {w : World} {A : Option Addr} {N : Nat} {xs : List (List Value × Tg)} {x : List Value × Tg} (h : Ths w A (N + 1) (xs ++ [x])) : Ths w A N xs := by
  have hl := h.length
  have hN : xs.length = N := by simpa using hl
  have hfl : (xs.map (·.1)).flatten.length = N * 30 := by
    rw [flats_len _ (fun l hl => h.lens l (by simp only [List.map_append, List.mem_append]; exact .inl hl)), List.length_map, hN]
  refine ⟨⟨hfl, by have := h.sl.le; omega, fun hp => ?_⟩, fun y hy => h.th y (List.mem_append_left _ hy)⟩
  obtain ⟨ad, rfl, hb, hcc⟩ := h.sl.mem (by omega)
  refine ⟨ad, rfl, hb, fun j u hu => hcc j u ?_⟩
  rw [List.map_append, List.flatten_append, List.getElem?_append_left ((List.getElem?_eq_some_iff.1 hu).1)]
  exact hu
end Go.Proofs.Ythibihjblodfmaa
