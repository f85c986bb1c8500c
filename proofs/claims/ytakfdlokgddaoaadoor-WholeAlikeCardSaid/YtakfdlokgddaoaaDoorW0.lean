/- Keys that sign once, rings of them: the words and the plain law. -/
import Derived.Test.YtakfdlokgddaoaaDoorHB
import Derived.Test.YtakfdlokgddaoaaDoorTH
import Derived.Test.YtakfdlokgddaoaaDoorOB
import Derived.Test.YtakfdlokgddaoaaDoorS1
namespace Go.Proofs.YtakfdlokgddaoaaDoor
set_option linter.unusedSimpArgs false
set_option linter.unusedVariables false
open Go.RowKit

def oneI (d : List Int) : List Int := outI (takeI (beginI 2) (numG d))
theorem oneI_ok (d : List Int) : DgOk (oneI d) := outI_ok _
/-- One, done so often. -/
def chainI : Nat → List Int → List Int
  | 0, d => d
  | n + 1, d => oneI (chainI n d)
theorem chainI_ok {d : List Int} (h : DgOk d) : ∀ n, DgOk (chainI n d)
  | 0 => h
  | n + 1 => oneI_ok _
theorem chainI_add (d : List Int) (a : Nat) : ∀ b, chainI b (chainI a d) = chainI (a + b) d
  | 0 => rfl
  | b + 1 => by rw [chainI, chainI_add d a b]; rfl
def manyS (l : List (List Int)) : St := l.foldl (fun s d => takeI s (numG d)) (beginI 5)
def manyI (l : List (List Int)) : List Int := outI (takeI (manyS l) l.length)
theorem manyI_ok (l : List (List Int)) : DgOk (manyI l) := outI_ok _
theorem manyS_snoc (l : List (List Int)) (d : List Int) : manyS (l ++ [d]) = takeI (manyS l) (numG d) := by unfold manyS; rw [List.foldl_append]; rfl
/-- Where a secret's chain begins. -/
def startI (sec : List Int) (c : Nat) : List Int := twoI sec (fromG c)
theorem startI_ok (sec : List Int) (c : Nat) : DgOk (startI sec c) := twoI_ok _ _
/-- How much the first n bytes of a message lack. -/
def lackM : List Int → Int
  | [] => 0
  | b :: l => (30 - b % 16 - b / 16) + lackM l
/-- How far along its chains a message's signature stands. -/
def reachI (msg : List Int) (c : Nat) : Nat :=
  if c < 16 then (if c % 2 = 0 then ((msg.getD (c / 2) 0) % 16).toNat else ((msg.getD (c / 2) 0) / 16).toNat)
  else if c = 16 then (lackM msg % 16).toNat else (lackM msg / 16).toNat
theorem lackM_rng : ∀ (l : List Int), ByOk l → 0 ≤ lackM l ∧ lackM l ≤ 30 * l.length
  | [], _ => by simp [lackM]
  | b :: l, h => by
    have h1 := lackM_rng l h.tail
    have h2 := h b (by simp)
    simp only [lackM, List.length_cons]
    omega
theorem reachI_le {msg : List Int} (h : DgOk msg) (c : Nat) : reachI msg c ≤ 15 := by
  have hl := lackM_rng msg h.byt
  rw [h.len] at hl
  unfold reachI
  split
  · have hb : 0 ≤ msg.getD (c / 2) 0 ∧ msg.getD (c / 2) 0 < 256 := by
      rw [List.getD_eq_getElem?_getD]
      rcases hx : msg[c / 2]? with _ | x
      · exact ⟨Int.le_refl _, by decide⟩
      · exact h.byt x (List.mem_of_getElem? hx)
    split <;> omega
  · split <;> omega
def chainsI : List Nat := List.range 18
def pubI (sec : List Int) : List Int := manyI (chainsI.map fun c => chainI 15 (startI sec c))
theorem pubI_ok (sec : List Int) : DgOk (pubI sec) := manyI_ok _
def ends (sec msg : List Int) : List (List Int) := chainsI.map fun c => chainI (reachI msg c) (startI sec c)
theorem ends_ok (sec msg : List Int) : DsOk (ends sec msg) := fun d hd => by
  obtain ⟨c, _, rfl⟩ := List.mem_map.1 hd
  exact chainI_ok (startI_ok _ _) _
theorem ends_len (sec msg : List Int) : (ends sec msg).length = 18 := by simp [ends, chainsI]
def osignI (sec msg : List Int) : List Int := (ends sec msg).flatten
def pieceI (sig : List Int) (c : Nat) : List Int := (sig.drop (c * 8)).take 8
theorem flat8 : ∀ (l : List (List Int)), DsOk l → ∀ (c : Nat) (d : List Int), l[c]? = some d → (l.flatten.drop (c * 8)).take 8 = d
  | [], _, c, d, h => by simp at h
  | x :: l, ho, c, d, h => by
    have hx := (ho x (by simp)).len
    cases c with
    | zero =>
      simp at h; subst h
      rw [List.flatten_cons, Nat.zero_mul, List.drop_zero, ← hx, List.take_left]
    | succ c =>
      have h1 := flat8 l (fun y hy => ho y (by simp [hy])) c d (by simpa using h)
      rw [List.flatten_cons, show (c + 1) * 8 = x.length + c * 8 by rw [hx]; omega, ← List.drop_drop, List.drop_left]
      exact h1
theorem flat8_len : ∀ (l : List (List Int)), DsOk l → l.flatten.length = l.length * 8
  | [], _ => rfl
  | x :: l, ho => by
    have hx := (ho x (by simp)).len
    rw [List.flatten_cons, List.length_append, flat8_len l (fun y hy => ho y (by simp [hy])), hx, List.length_cons]; omega
theorem osignI_len (sec msg : List Int) : (osignI sec msg).length = 144 := by rw [osignI, flat8_len _ (ends_ok _ _), ends_len]
theorem flat_ok {l : List (List Int)} (h : DsOk l) : ByOk l.flatten := fun b hb => by
  obtain ⟨d, hd, hb⟩ := List.mem_flatten.1 hb
  exact (h d hd).byt b hb
def toldI (msg sig : List Int) : List Int := manyI (chainsI.map fun c => chainI (15 - reachI msg c) (pieceI sig c))
theorem told_sign {msg : List Int} (h : DgOk msg) (sec : List Int) : toldI msg (osignI sec msg) = pubI sec := by
  unfold toldI pubI
  congr 1
  refine List.map_congr_left fun c hc => ?_
  have hc18 : c < 18 := by simpa [chainsI] using hc
  have hp : pieceI (osignI sec msg) c = chainI (reachI msg c) (startI sec c) := flat8 _ (ends_ok _ _) c _ (by simp [ends, chainsI, hc18])
  rw [hp, chainI_add]
  have := reachI_le h c
  rw [show reachI msg c + (15 - reachI msg c) = 15 by omega]
def txtKey : List Int := [107, 101, 121]
def ownI (sec : List Int) (i : Nat) : List Int := twoI (wordI sec txtKey) (fromG i)
theorem ownI_ok (sec : List Int) (i : Nat) : DgOk (ownI sec i) := twoI_ok _ _
def leavesI (sec : List Int) (h : Nat) : List (List Int) := (List.range (2 ^ h)).map fun i => pubI (ownI sec i)
theorem leavesI_ok (sec : List Int) (h : Nat) : DsOk (leavesI sec h) := fun d hd => by
  obtain ⟨c, _, rfl⟩ := List.mem_map.1 hd
  exact pubI_ok _
theorem leavesI_len (sec : List Int) (h : Nat) : (leavesI sec h).length = 2 ^ h := by simp [leavesI]
theorem leavesI_at (sec : List Int) {h i : Nat} (hi : i < 2 ^ h) : (leavesI sec h)[i]? = some (pubI (ownI sec i)) := by simp [leavesI, hi]
/-- A ring's signature. -/
def sigI (sec : List Int) (h i : Nat) (msg : List Int) : List Int := numB i ++ osignI (ownI sec i) msg ++ (pathL (leavesI sec h) i).flatten
/-- A signature's parts. -/
def splitI (sig : List Int) : Option (Nat × List Int × List (List Int)) :=
  if (numR ⟨sig, 0⟩ 255).1.err = 0 then
    if (numR ⟨sig, 0⟩ 255).1.rest.length < 144 ∨ ((numR ⟨sig, 0⟩ 255).1.rest.length - 144) % 8 ≠ 0 then none
    else if 8 < ((numR ⟨sig, 0⟩ 255).1.rest.length - 144) / 8 ∨ 2 ^ (((numR ⟨sig, 0⟩ 255).1.rest.length - 144) / 8) ≤ (numR ⟨sig, 0⟩ 255).2.toNat then none
    else some ((numR ⟨sig, 0⟩ 255).2.toNat, (numR ⟨sig, 0⟩ 255).1.rest.take 144, (List.range (((numR ⟨sig, 0⟩ 255).1.rest.length - 144) / 8)).map fun i => ((numR ⟨sig, 0⟩ 255).1.rest.drop (144 + i * 8)).take 8)
  else none
theorem path_len {ls : List (List Int)} {h i : Nat} (hl : ls.length = 2 ^ h) (hh : h ≤ 8) (hi : i < 2 ^ h) : (pathL ls i).length = h := by
  have h4 : 2 ^ h ≤ 2 ^ 8 := Nat.pow_le_pow_right (by decide) hh
  have h1 : 1 ≤ 2 ^ h := Nat.pos_of_ne_zero (by simp)
  rw [pathL_in (by omega) (by omega), pathI_len, hl, height_of h1 (by omega) (by omega) (Nat.le_refl _)]
  rcases Nat.eq_zero_or_pos h with rfl | hp
  · exact Or.inl rfl
  · exact Or.inr (Nat.pow_lt_pow_right (by decide) (by omega))
theorem split_sig (sec : List Int) {h i : Nat} (hh : h ≤ 8) (hi : i < 2 ^ h) (msg : List Int) : splitI (sigI sec h i msg) = some (i, osignI (ownI sec i) msg, pathL (leavesI sec h) i) := by
  have h4 : 2 ^ h ≤ 2 ^ 8 := Nat.pow_le_pow_right (by decide) hh
  have hi8 : i < 256 := by have : (2 : Nat) ^ 8 = 256 := by decide
                           omega
  have hpl := path_len (leavesI_len sec h) hh hi
  have hpo : DsOk (pathL (leavesI sec h) i) := pathL_ok _ _
  have hfl := flat8_len _ hpo
  rw [hpl] at hfl
  have hol := osignI_len (ownI sec i) msg
  have hn : numR ⟨sigI sec h i msg, 0⟩ 255 = (⟨osignI (ownI sec i) msg ++ (pathL (leavesI sec h) i).flatten, 0⟩, (i : Int)) := by
    unfold numR
    rw [sigI, List.append_assoc, if_pos rfl, look_num i (by omega) _, if_pos rfl, if_pos (by show (i : Int) ≤ 255; omega), List.drop_left]
  rw [splitI, hn]
  show (if (0 : Int) = 0 then _ else _) = _
  rw [if_pos rfl]
  have hlen : (osignI (ownI sec i) msg ++ (pathL (leavesI sec h) i).flatten).length = 144 + h * 8 := by rw [List.length_append, hol, hfl]
  show (if (osignI (ownI sec i) msg ++ (pathL (leavesI sec h) i).flatten).length < 144 ∨ ((osignI (ownI sec i) msg ++ (pathL (leavesI sec h) i).flatten).length - 144) % 8 ≠ 0 then none else if 8 < ((osignI (ownI sec i) msg ++ (pathL (leavesI sec h) i).flatten).length - 144) / 8 ∨ 2 ^ (((osignI (ownI sec i) msg ++ (pathL (leavesI sec h) i).flatten).length - 144) / 8) ≤ (i : Int).toNat then none else some ((i : Int).toNat, (osignI (ownI sec i) msg ++ (pathL (leavesI sec h) i).flatten).take 144, (List.range (((osignI (ownI sec i) msg ++ (pathL (leavesI sec h) i).flatten).length - 144) / 8)).map fun k => ((osignI (ownI sec i) msg ++ (pathL (leavesI sec h) i).flatten).drop (144 + k * 8)).take 8)) = _
  rw [hlen, show (144 + h * 8 - 144) / 8 = h by omega, if_neg (by omega), if_neg (by rw [Int.toNat_natCast]; omega), Int.toNat_natCast]
  congr 2
  congr 1
  · rw [← hol, List.take_left]
  · refine List.ext_getElem? fun k => ?_
    rcases Nat.lt_or_ge k h with hk | hk
    · obtain ⟨d, hd⟩ : ∃ d, (pathL (leavesI sec h) i)[k]? = some d := ⟨(pathL (leavesI sec h) i)[k]'(by omega), List.getElem?_eq_getElem _⟩
      rw [hd, List.getElem?_map, List.getElem?_range hk]
      have e1 : (osignI (ownI sec i) msg ++ (pathL (leavesI sec h) i).flatten).drop (144 + k * 8) = (pathL (leavesI sec h) i).flatten.drop (k * 8) := by rw [← hol, ← List.drop_drop, List.drop_left]
      show some (((osignI (ownI sec i) msg ++ (pathL (leavesI sec h) i).flatten).drop (144 + k * 8)).take 8) = some d
      rw [e1, flat8 _ hpo k d hd]
    · rw [List.getElem?_eq_none (by simp; omega), List.getElem?_eq_none (by omega)]
/-- Is it a signature of the message? -/
def verI (pub msg sig : List Int) : Bool := match splitI sig with
  | none => false
  | some (i, o, p) => checkI pub i (toldI msg o) p
theorem ver_sig (sec : List Int) {h i : Nat} (hh : h ≤ 8) (hi : i < 2 ^ h) {msg : List Int} (hm : DgOk msg) : verI (rootI (leavesI sec h)) msg (sigI sec h i msg) = true := by
  have h4 : 2 ^ h ≤ 2 ^ 8 := Nat.pow_le_pow_right (by decide) hh
  have e8 : (2 : Nat) ^ 8 = 256 := by decide
  rw [verI, split_sig sec hh hi msg]
  show checkI _ _ (toldI msg (osignI (ownI sec i) msg)) _ = true
  rw [told_sign hm]
  exact check_at (leavesI_at sec hi) (by rw [leavesI_len]; omega)
theorem split_nil : splitI [] = none := by
  rw [splitI, num_look (s := ⟨[], 0⟩) rfl (by decide) 255, if_neg (by decide)]
theorem ver_nil (pub msg : List Int) : verI pub msg [] = false := by rw [verI, split_nil]
end Go.Proofs.YtakfdlokgddaoaaDoor
