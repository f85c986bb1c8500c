/- What is signed of a state, and of an act. -/
import Derived.Test.YtakfdlokgddaoaaDoorS2
namespace Go.Proofs.YtakfdlokgddaoaaDoor
open Go.RowKit

theorem own_facts {w w' : World} {base : Nat} {bs : List Int} {v : Value} (h : OwnB base bs w v w') :
    ∃ A c, v = .slice A bs.length c ∧ Sl w' w'.heap.size 1 A bs.length (bs.map (.int .u8)) ∧ bs.length ≤ c ∧ ∀ ad, A = some ad → ad.block < w'.heap.size := by
  obtain ⟨A, c, rfl⟩ := h.form
  refine ⟨A, c, rfl, h.sl, ?_, ?_⟩
  · rcases own_bk h.1 with ⟨e, e2, _⟩ | ⟨g', cap, zs, e, _, _, hnc, _⟩
    · injection e with e1 e2 e3; omega
    · injection e with e1 e2 e3; omega
  · rintro ad rfl
    rcases own_bk h.1 with ⟨e, _, _⟩ | ⟨g', cap, zs, e, _, hbk, _⟩
    · injection e with e1; cases e1
    · injection e with e1; injection e1 with e1; subst e1; exact hbk.lt
theorem own_pc {w w' : World} {base : Nat} {bs : List Int} {v : Value} (h : OwnB base bs w v w') : ∃ A n c, v = .slice A n c ∧ PcsOk w' [⟨A, n, c, bs⟩] := by
  obtain ⟨A, c, hv, hs, _⟩ := own_facts h
  exact ⟨A, bs.length, c, hv, fun p hp => by rw [List.mem_singleton] at hp; subst hp; exact hs⟩
theorem PcsOk.nil (w : World) : PcsOk w [] := fun p hp => by simp at hp
theorem PcsOk.add {w w' : World} {ps : List Pc} {p : Pc} (h : PcsOk w ps) (hb : Below w.heap.size w w') (hp : PcsOk w' [p]) : PcsOk w' (ps ++ [p]) := fun q hq => by
  rcases List.mem_append.1 hq with hq | hq
  · exact h.later hb q hq
  · exact hp q hq
theorem byOk_app {xs ys : List Int} (h : ByOk xs) (h' : ByOk ys) : ByOk (xs ++ ys) := fun b hb => by
  rcases List.mem_append.1 hb with hb | hb
  · exact h b hb
  · exact h' b hb
theorem numB_ok {n : Nat} (h : n < 18446744073709551616) : ByOk (numB n) := num_ok 9 n (by show n < 1180591620717411303424; omega)
theorem lstB_ok {x : List Int} (h : ByOk x) (hl : x.length ≤ 4294967296) : ByOk (lstB x) := byOk_app (numB_ok (by omega)) h
theorem numB_le (n : Nat) : (numB n).length ≤ 10 := (numF_len 9 n).2

def txtState : List Int := [115, 116, 97, 116, 101]
def txtAct : List Int := [97, 99, 116]
def txtPay : List Int := [112, 97, 121]
def stB (t : List Int) (n : Int) (p : List Int) : List Int := lstB txtState ++ (lstB t ++ (numB (foldI n) ++ lstB p))
def acB (t : List Int) (n : Int) (a p : List Int) : List Int := lstB txtAct ++ (lstB t ++ (numB (foldI n) ++ (lstB a ++ lstB p)))
theorem txtState_is : bytesOf ⟨#[115, 116, 97, 116, 101]⟩ = txtState := by decide
theorem txtAct_is : bytesOf ⟨#[97, 99, 116]⟩ = txtAct := by decide
theorem txtPay_is : bytesOf ⟨#[112, 97, 121]⟩ = txtPay := by decide
theorem txt_ok : ByOk txtState ∧ ByOk txtAct ∧ ByOk txtPay := by
  refine ⟨fun b hb => ?_, fun b hb => ?_, fun b hb => ?_⟩ <;> simp [txtState, txtAct, txtPay] at hb <;> omega
theorem stB_ok {t p : List Int} {n : Int} (ht : DgOk t) (hp : ByOk p) (h0 : -9223372036854775808 ≤ n) (h1 : n < 9223372036854775808) (hl : p.length ≤ 4294967296) : ByOk (stB t n p) :=
  byOk_app (lstB_ok txt_ok.1 (by decide)) (byOk_app (lstB_ok ht.byt (by rw [ht.len]; omega)) (byOk_app (numB_ok (fold_lt h0 h1)) (lstB_ok hp hl)))
theorem acB_ok {t a p : List Int} {n : Int} (ht : DgOk t) (ha : DgOk a) (hp : ByOk p) (h0 : -9223372036854775808 ≤ n) (h1 : n < 9223372036854775808) (hl : p.length ≤ 4294967296) : ByOk (acB t n a p) :=
  byOk_app (lstB_ok txt_ok.2.1 (by decide)) (byOk_app (lstB_ok ht.byt (by rw [ht.len]; omega)) (byOk_app (numB_ok (fold_lt h0 h1)) (byOk_app (lstB_ok ha.byt (by rw [ha.len]; omega)) (lstB_ok hp hl))))
theorem stB_le {t p : List Int} {n : Int} (ht : DgOk t) : (stB t n p).length ≤ p.length + 60 := by
  have h1 := lstB_len txtState; have h2 := lstB_len t; have h3 := numB_le (foldI n); have h4 := lstB_len p; have h5 : txtState.length = 5 := rfl
  simp only [stB, List.length_append]; have := ht.len; omega
theorem acB_le {t a p : List Int} {n : Int} (ht : DgOk t) (ha : DgOk a) : (acB t n a p).length ≤ p.length + 80 := by
  have h1 := lstB_len txtAct; have h2 := lstB_len t; have h3 := numB_le (foldI n); have h4 := lstB_len p; have h5 : txtAct.length = 3 := rfl; have h6 := lstB_len a
  simp only [acB, List.length_append]; have := ht.len; have := ha.len; omega

/-- What a state's block holds; an act's. -/
structure StM (w : World) (g : Nat) (n : Int) (t : List Int) (p : Value) : Prop where
  c8 : w.cell? ⟨g, 8, none⟩ = some (.int .i64 n)
  c9 : w.cell? ⟨g, 9, none⟩ = some p
  r0 : w.rangeAt g 0 (dl t)
theorem st_mem {w : World} {g : Nat} {n : Int} {t : List Int} {p : Value} {ty : TypeId} (ht : DgOk t) (h : Bk w g ty (staC n t p)) : StM w g n t p := by
  have lt := ht.len
  have h1 : Bk w g ty (dl t ++ .int .i64 n :: [p]) := h
  have h2 : Bk w g ty ((dl t ++ [.int .i64 n]) ++ p :: []) := by have := h; simpa [staC] using this
  have h3 : Bk w g ty ([] ++ (dl t ++ [.int .i64 n, p])) := h
  exact ⟨h1.at1 (by simp [dl_len, lt]), h2.at1 (by simp [dl_len, lt]), h3.range rfl⟩
structure AcM (w : World) (g : Nat) (n : Int) (t a : List Int) (p : Value) : Prop where
  c8 : w.cell? ⟨g, 8, none⟩ = some (.int .i64 n)
  c17 : w.cell? ⟨g, 17, none⟩ = some p
  r0 : w.rangeAt g 0 (dl t)
  r9 : w.rangeAt g 9 (dl a)
theorem ac_mem {w : World} {g : Nat} {n : Int} {t a : List Int} {p : Value} {ty : TypeId} (ht : DgOk t) (ha : DgOk a) (h : Bk w g ty (actC n t a p)) : AcM w g n t a p := by
  have lt := ht.len; have la := ha.len
  have h1 : Bk w g ty (dl t ++ .int .i64 n :: (dl a ++ [p])) := h
  have h2 : Bk w g ty ((dl t ++ .int .i64 n :: dl a) ++ p :: []) := by have := h; simpa [actC] using this
  have h3 : Bk w g ty ([] ++ (dl t ++ (.int .i64 n :: (dl a ++ [p])))) := h
  have h4 : Bk w g ty ((dl t ++ [.int .i64 n]) ++ (dl a ++ [p])) := by have := h; simpa [actC] using this
  exact ⟨h1.at1 (by simp [dl_len, lt]), h2.at1 (by simp [dl_len, lt, la]), h3.range rfl, h4.range (by simp [dl_len, lt])⟩
/-- A digest within a block, as a slice of bytes. -/
theorem sl_rg {w : World} {g o : Nat} {t : List Int} (ht : DgOk t) (hg : g < w.heap.size) (h : w.rangeAt g o (dl t)) : Sl w w.heap.size 1 (some ⟨g, o, none⟩) 8 (t.map (.int .u8)) :=
  ⟨by rw [List.length_map, ht.len], by omega, fun _ => ⟨_, rfl, hg, fun j u hu => by rw [add_plain]; exact h j u hu⟩⟩

end Go.Proofs.YtakfdlokgddaoaaDoor
