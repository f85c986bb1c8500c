/- The law's own: some leaves, plain ones. -/
import Derived.Test.YtimcjldehememaaDoorT19
namespace Go.Proofs.YtimcjldehememaaDoor
open Go.RowKit

theorem plain_any (w : World) (A : Option Addr) (n c : Nat) (ls : List (List Int)) (ho : DsOk ls) (hs : Sl w w.heap.size 8 A n (cellsD ls)) (hn4 : n ≤ 1048576) :
    Calls Tryd.prog 14 #[.slice A n c] w fun e w' => (∃ v, e = .returned v ∧ w'.ownsRow w.heap.size 25 8 v n (cellsD ls)) ∧ Below w.heap.size w w' := by
  have hlen := hs.dgs ho
  have HS := Lib.hid hs; have HO := Lib.hid ho; have HL := Lib.hid hlen
  obtain ⟨d0, hdi, hd0, hd1, hd2⟩ := info_parts Tryd.infoRd
  clear hs ho hlen
  go_enter Tryd.func14, Tryd.ntmps14
  go_wp2_with fail
  go_loopw [3, 4] (fun vo ms wr => ∃ (m : Nat), m ≤ n ∧ ms = .int .i64 m ∧ Hid (wr.ownsRow w.heap.size 25 8 vo m (cellsD (ls.take m))) ∧ Hid (Below w.heap.size w wr)) (fun _ ms _ => n - (intOf ms).toNat)
  case atStart => exact ⟨0, by omega, rfl, World.ownsRow_nil _ _ _ _, Below.refl _ _⟩
  case round =>
    obtain ⟨m, hm, rfl, HOW, HB⟩ := hrel
    by_cases hlt : m < n
    · obtain ⟨b, o, rfl, hbb, _⟩ := HS.out.spot (by omega) (by omega)
      obtain ⟨x, hx⟩ : ∃ x, ls[m]? = some x := ⟨ls[m]'(by rw [HL.out]; exact hlt), List.getElem?_eq_getElem _⟩
      have hxo := HO.out x (List.mem_of_getElem? hx)
      have hr := sl_dg (HS.out.below HB.out) HO.out hx
      obtain ⟨o0, o1, o2, o3, o4, o5, o6, o7, rfl⟩ := list8 x hxo.len
      obtain ⟨c0, c1, c2, c3, c4, c5, c6, c7⟩ := range8 hr
      have HX := Lib.hid hx
      have hm1 : (m : Int) < n := by omega
      have hm0 : (0 : Int) ≤ m := by omega
      have hsz := HB.out.size
      clear hx hxo hr
      go_wp2_with (at_builtin; refine wpList_app _ rfl (.tmp 11) (.tmp 16) 32 rfl w.heap.size 25 d0 (.agg (dgA zeroD)) 8 8 Tryd.underlying32 hdi hd0 hd1 hd2 rfl (by decide) _ _ _ rfl (HOW.out.alloc _) _ _ 1 1 [.int .u8 o0, .int .u8 o1, .int .u8 o2, .int .u8 o3, .int .u8 o4, .int .u8 o5, .int .u8 o6, .int .u8 o7] rfl (sl_new _ #[_, _, _, _, _, _, _, _] _ 8 1 rfl (by omega)) (by simp [Value.oneCell']) (by unfold maxLen; omega) (by omega) (by simp; omega) ?_; intro v1 w3 hown1 hg1 hat1)
      have hb3 := grown_below (HB.out.alloc HB.out.size (.cells #[.int .u8 o0, .int .u8 o1, .int .u8 o2, .int .u8 o3, .int .u8 o4, .int .u8 o5, .int .u8 o6, .int .u8 o7] 25)) (HOW.out.alloc _) hg1 (Nat.le_refl _) (by simp; omega)
      have HO3 : Hid (w3.ownsRow w.heap.size 25 8 v1 (m + 1) (cellsD (ls.take (m + 1)))) := by
        show World.ownsRow _ _ _ _ _ _ _
        rw [take_snoc HX.out, cellsD_snoc]
        exact hown1
      have HB3 := Lib.hid hb3
      clear hown1 hg1 hat1 hb3
      go_roundw
      case rel => exact ⟨m + 1, by omega, by go_num, HO3, HB3⟩
      case measure => simp [intOf]; omega
    · obtain rfl : m = n := by omega
      have how := HOW.out
      rw [List.take_of_length_le (by rw [HL.out]; omega)] at how
      have HF := Lib.hid how
      clear how
      go_wp2_with fail
      go_ret
      exact ⟨⟨_, rfl, HF.out⟩, HB.out⟩

def leaf16 (b v : Int) : List Int := [v % 256, v / 256, b, 0, 0, 0, 0, 0]
def U16 (vs : List Int) : Prop := ∀ v ∈ vs, 0 ≤ v ∧ v < 65536
def someI (vs : List Int) (mo : Nat) : List (List Int) := (vs.take mo).map (leaf16 3)
theorem leaf16_ok {b v : Int} (hb : 0 ≤ b ∧ b < 256) (h : 0 ≤ v ∧ v < 65536) : DgOk (leaf16 b v) := ⟨rfl, fun x hx => by
  simp only [leaf16, List.mem_cons, List.not_mem_nil, or_false] at hx
  rcases hx with rfl | rfl | rfl | rfl | rfl | rfl | rfl | rfl <;> omega⟩
theorem someI_ok {vs : List Int} (h : U16 vs) (mo : Nat) : DsOk (someI vs mo) := fun d hd => by
  simp only [someI, List.mem_map] at hd
  obtain ⟨v, hv, rfl⟩ := hd
  exact leaf16_ok (by omega) (h v (List.mem_of_mem_take hv))
theorem someI_len (vs : List Int) (mo : Nat) : (someI vs mo).length = min mo vs.length := by simp [someI]

set_option maxRecDepth 20000 in
theorem some_any (w : World) (A : Option Addr) (n c : Nat) (vs : List Int) (ho : U16 vs) (hs : Sl w w.heap.size 1 A n (vs.map (.int .u16))) (mo : Nat) (hmo : mo ≤ 1000) :
    Calls Tryd.prog 11 #[.slice A n c, .int .i64 (mo : Int)] w fun e w' => (∃ v, e = .returned v ∧ w'.ownsRow w.heap.size 26 8 v (min mo n) (cellsD (someI vs mo))) ∧ Below w.heap.size w w' := by
  have hlen := hs.length
  have hn := hs.le
  have HS := Lib.hid hs; have HO := Lib.hid ho; have HL := Lib.hid hlen
  obtain ⟨d0, hdi, hd0, hd1, hd2⟩ := info_parts Tryd.infoDg
  obtain ⟨mm, hmm⟩ : ∃ mm, min mo n = mm := ⟨_, rfl⟩
  have hmm1 : mm ≤ mo := by omega
  have hmm2 : mm ≤ n := by omega
  have HMM := Lib.hid hmm
  have HSM : Hid (someI vs mo = (vs.take mm).map (leaf16 3)) := by
    show _ = _
    rw [someI, List.take_eq_take_min, hlen, hmm]
  rw [hmm]
  clear hs ho hlen hmm
  go_enter Tryd.func11, Tryd.ntmps11
  go_wp2_with fail
  go_loopw [5, 6] (fun vo ms wr => ∃ (m : Nat), m ≤ mm ∧ ms = .int .i64 m ∧ Hid (wr.ownsRow w.heap.size 26 8 vo m (cellsD ((vs.take m).map (leaf16 3)))) ∧ Hid (Below w.heap.size w wr)) (fun _ ms _ => mm - (intOf ms).toNat)
  case atStart => exact ⟨0, by omega, rfl, World.ownsRow_nil _ _ _ _, Below.refl _ _⟩
  case round =>
    obtain ⟨m, hm, rfl, HOW, HB⟩ := hrel
    by_cases hlt : m < mm
    · obtain ⟨b, o, rfl, hbb, hcc⟩ := HS.out.spot (by omega) (by omega)
      obtain ⟨x, hx⟩ : ∃ x, vs[m]? = some x := ⟨vs[m]'(by rw [HL.out]; omega), List.getElem?_eq_getElem _⟩
      have hxo := HO.out x (List.mem_of_getElem? hx)
      have hc1 : w.cell? ⟨b, o + m, none⟩ = some (.int .u16 x) := hcc m _ (by rw [List.getElem?_map, hx]; rfl)
      have hc : wr.cell? ⟨b, o + m, none⟩ = some (.int .u16 x) := (HB.out.cell (p := ⟨b, o + m, none⟩) hbb).trans hc1
      have HX := Lib.hid hx; have HXO := Lib.hid hxo
      have hm1 : (m : Int) < n := by omega
      have hm2 : (m : Int) < mo := by omega
      have hm0 : (0 : Int) ≤ m := by omega
      have hsz := HB.out.size
      have x0 : 0 ≤ x := hxo.1
      have x1 : x < 65536 := hxo.2
      have hc0 := hc1
      clear hx hc1 hcc
      have HC := Lib.hid hc
      have e1 : x / 256 < 256 := by omega
      have e0 : 0 ≤ x / 256 := by omega
      have u1 : IntKind.u8.wrap x = x % 256 := by rw [IntKind.wrap_u8]
      have u2 : IntKind.u16.wrap (x.tdiv 256) = x / 256 := by rw [Int.tdiv_eq_ediv_of_nonneg x0, IntKind.wrap_u16]; omega
      have u3 : IntKind.u8.wrap (x / 256) = x / 256 := by rw [IntKind.wrap_u8]; omega
      have hA1 : ((wr.alloc (.cells #[.int .u8 (x % 256), .int .u8 (x / 256), .int .u8 3, .int .u8 0, .int .u8 0, .int .u8 0, .int .u8 0, .int .u8 0] 26)).drew).ownsRow w.heap.size 26 8 u5 m (cellsD ((vs.take m).map (leaf16 3))) := own_keep HOW.out (((Below.refl _ _).alloc (Nat.le_refl _) _).drew)
      have hA2 : Sl ((wr.alloc (.cells #[.int .u8 (x % 256), .int .u8 (x / 256), .int .u8 3, .int .u8 0, .int .u8 0, .int .u8 0, .int .u8 0, .int .u8 0] 26)).drew) (wr.heap.size + 1) 8 (some ⟨wr.heap.size, 0, none⟩) 1 [.int .u8 (x % 256), .int .u8 (x / 256), .int .u8 3, .int .u8 0, .int .u8 0, .int .u8 0, .int .u8 0, .int .u8 0] := by
        have := sl_new wr #[.int .u8 (x % 256), .int .u8 (x / 256), .int .u8 3, .int .u8 0, .int .u8 0, .int .u8 0, .int .u8 0, .int .u8 0] 26 8 1 rfl (by omega)
        rw [show (wr.alloc (.cells #[.int .u8 (x % 256), .int .u8 (x / 256), .int .u8 3, .int .u8 0, .int .u8 0, .int .u8 0, .int .u8 0, .int .u8 0] 26)).heap.size = wr.heap.size + 1 by simp] at this
        exact this.drew
      have hA3 : ∀ u ∈ ([.int .u8 (x % 256), .int .u8 (x / 256), .int .u8 3, .int .u8 0, .int .u8 0, .int .u8 0, .int .u8 0, .int .u8 0] : List Value), u.oneCell' = true := by simp [Value.oneCell']
      have hA4 : w.heap.size ≤ ((wr.alloc (.cells #[.int .u8 (x % 256), .int .u8 (x / 256), .int .u8 3, .int .u8 0, .int .u8 0, .int .u8 0, .int .u8 0, .int .u8 0] 26)).drew).heap.size := by simp; omega
      have hA5 : Below w.heap.size w ((wr.alloc (.cells #[.int .u8 (x % 256), .int .u8 (x / 256), .int .u8 3, .int .u8 0, .int .u8 0, .int .u8 0, .int .u8 0, .int .u8 0] 26)).drew) := (HB.out.alloc hsz _).drew
      have hA6 : m + 1 ≤ maxLen := by unfold maxLen; omega
      have hA7 : (m + 1) * 8 ≤ 140737488355328 := by omega
      have hA8 : ∀ (w3 : World), Below w.heap.size w w3 → w3.cell? ⟨b, o + m, none⟩ = some (.int .u16 x) := fun w3 h3 => (h3.cell (p := ⟨b, o + m, none⟩) hbb).trans hc0
      have HA1 := Lib.hid hA1; have HA2 := Lib.hid hA2; have HA3 := Lib.hid hA3; have HA4 := Lib.hid hA4; have HA5 := Lib.hid hA5; have HA6 := Lib.hid hA6; have HA7 := Lib.hid hA7; have HA8 := Lib.hid hA8
      clear hA1 hA2 hA3 hA4 hA5 hA6 hA7 hA8 hc0
      go_wp2_with fail
      go_region_held3 (fun w' => w'.cell? ⟨b, o + m, none⟩ = some (.int .u16 x)) (first | (with_reducible exact hS1) | go_keep)
        (first
          | (refine step_app _ rfl (.tmp 18) (.tmp 31) 23 rfl w.heap.size 26 d0 (.agg (dgA zeroD)) 8 8 Tryd.underlying23 hdi hd0 hd1 hd2 rfl (by decide) u5 m (cellsD ((vs.take m).map (leaf16 3))) rfl HA1.out (wr.heap.size + 1) (some ⟨wr.heap.size, 0, none⟩) 1 1 [.int .u8 (x % 256), .int .u8 (x / 256), .int .u8 3, .int .u8 0, .int .u8 0, .int .u8 0, .int .u8 0, .int .u8 0] rfl HA2.out HA3.out HA6.out HA7.out HA4.out ?_; intro v1 w3 hown1 hg1 hat1; have hb3 := grown_below HA5.out HA1.out hg1 (Nat.le_refl _) HA4.out; have hS1 := HA8.out w3 hb3))
      have HO3 : Hid (w3.ownsRow w.heap.size 26 8 v1 (m + 1) (cellsD ((vs.take (m + 1)).map (leaf16 3)))) := by
        show World.ownsRow _ _ _ _ _ _ _
        rw [take_snoc HX.out, List.map_append, List.map_cons, List.map_nil, cellsD_snoc]
        exact hown1
      have HB3 := Lib.hid hb3
      clear hown1 hg1 hat1 hb3 hS1
      go_wp2_with fail
      go_roundw
      case rel => exact ⟨m + 1, by omega, by go_num, HO3, HB3⟩
      case measure => simp [intOf]; omega
    · obtain rfl : m = mm := by omega
      have hmq : m = n ∨ m = mo := by have := HMM.out; omega
      by_cases hmn : m < n
      · have hm1 : (m : Int) < n := by omega
        have hm2 : decide ((m : Int) < mo) = false := by simp <;> omega
        have hm3 : decide (m < mo) = false := by simp <;> omega
        have hm4 : ¬ m < mo := by omega
        go_wp2_with fail
        go_ret
        rw [HSM.out]
        exact ⟨⟨_, rfl, HOW.out⟩, HB.out⟩
      · have hm2 : decide ((m : Int) < n) = false := by simp <;> omega
        have hm3 : decide (m < n) = false := by simp <;> omega
        go_wp2_with fail
        go_ret
        rw [HSM.out]
        exact ⟨⟨_, rfl, HOW.out⟩, HB.out⟩
end Go.Proofs.YtimcjldehememaaDoor
