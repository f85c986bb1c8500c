/- Of all bytes it is told what they are: the walk of StateReads. -/
import Derived.Test.YthibihjblodfmaaSY
namespace Go.Proofs.Ythibihjblodfmaa
open Go.RowKit Go.Maps

theorem sameG_few {n : Int} {t ps : List Int} {L : List (List Int)} (h : Small ps L) : sameG t t n n (ps.take 5000) ps (fewL L) L = true := by
  obtain ⟨h1, h2⟩ := fewL_same h
  rw [h1, h2]; exact sameG_self t n ps L
set_option maxRecDepth 20000 in
set_option maxHeartbeats 8000000 in
theorem reads_any (w : World) (A : Option Addr) (N C : Nat) (bs : List Int) (hNC : N ≤ C) (hs : Sl w w.heap.size 1 A N (bs.map (.int .u8))) (hbo : ByOk bs) :
    Calls Try.prog 13 #[.slice A N C] w fun e w' => e = .returned (.bool true) ∧ Below w.heap.size w w' := by
  obtain ⟨K0, hK⟩ : ∃ K, min N 5000 = K := ⟨_, rfl⟩
  have hK5 : K0 ≤ 5000 := by omega
  have hKC : K0 ≤ C := by omega
  have HX := hs.head1 (k := min N 5000) (Nat.min_le_left _ _)
  have HXB : ByOk (bs.take (min N 5000)) := hbo.take _
  obtain ⟨xs, hxs⟩ : ∃ x, bs.take (min N 5000) = x := ⟨_, rfl⟩
  rw [hxs] at HX HXB
  rw [hK] at HX
  have HX1 := Lib.hid HX; have HBY := Lib.hid HXB; have HFW := Lib.hid (few_any w A N C hNC)
  rw [hK] at HFW
  have HDV := Lib.hid (decV (c := C) HXB HX (by omega))
  have HRV := Lib.hid (fun w' h => rdecV (w := w') (c := C) HXB (h : Sl w' w'.heap.size 1 A K0 (xs.map (.int .u8))) (by omega) hKC)
  obtain ⟨o1, o2, o3, o4⟩ := jn_ok HXB
  have HJK : Hid ((decRS xs).e = 0 → JnOk (decRS xs) xs) := dec_read HXB
  obtain ⟨J, hJ⟩ : ∃ J, decRS xs = J := ⟨_, rfl⟩
  rw [hJ] at HDV HRV o1 o2 o3 o4 HJK
  have HSM := Lib.hid o4
  have HB1 : Hid (Below w.heap.size w w) := Below.refl _ _
  clear hK HX HXB hxs hs hbo hJ o1 o2 o3 o4
  go_enter Try.func13, Try.ntmps13
  go_wp2_with fail
  refine HFW.out.mono ?_
  rintro e w' ⟨rfl, rfl⟩
  go_wp2_with fail
  refine HDV.out.mono ?_
  rintro e w2 ⟨cs, rfl, hsg, hbn⟩
  have HS2 := Lib.hid hsg; have HBB2 := Lib.hid hbn; have HX2 := Lib.hid (HX1.out.later hbn)
  clear hsg hbn
  go_wp2_with (with_reducible refine stop_store 101 _ _ rfl ?_)
  refine StopD.go ?_
  obtain ⟨g3, hg⟩ : ∃ g, w2.heap.size = g := ⟨_, rfl⟩
  have hbn : Below w2.heap.size w2 (w2.alloc (.cells #[.int .u8 0, .int .u8 0, .int .u8 0, .int .u8 0, .int .u8 0, .int .u8 0, .int .u8 0, .int .u8 0, .int .i64 0, .slice none 0 0, .slice none 0 0] 101)) := below_new w2 _
  have kt : Bk (w2.alloc (.cells #[.int .u8 0, .int .u8 0, .int .u8 0, .int .u8 0, .int .u8 0, .int .u8 0, .int .u8 0, .int .u8 0, .int .i64 0, .slice none 0 0, .slice none 0 0] 101)) g3 101 ([] ++ (sgC 0 zeroD (.slice none 0 0) (.slice none 0 0) ++ [])) := by rw [← hg]; exact Bk.new' w2 _ #[.int .u8 0, .int .u8 0, .int .u8 0, .int .u8 0, .int .u8 0, .int .u8 0, .int .u8 0, .int .u8 0, .int .i64 0, .slice none 0 0, .slice none 0 0] rfl
  rw [hg]
  refine wpList_store_part rfl 101 _ _ rfl g3 0 (.agg (cs).toArray) (cs) rfl rfl rfl 101 [] _ [] kt rfl (by rw [HS2.out.len]; rfl) (HS2.out.info) HS2.out.one ?_
  intro w3 hp
  have hbn : Below w2.heap.size w2 w3 := hbn.grown hp.only hbn.size (fun q hq => by injection hq with hq; omega)
  have HK3 : Hid (Bk w3 g3 101 (cs)) := by show Bk _ _ _ _; have := hp.bk; simpa using this
  clear hp kt hg
  have HBB3 := Lib.hid (below_then HBB2.out hbn)
  have HX3 := Lib.hid (HX2.out.later hbn)
  have HS3 := Lib.hid (HS2.out.later hbn)
  clear hbn
  go_wp2_with fail
  refine (HRV.out w3 HX3.out).mono ?_
  rintro e w4 ⟨ds, rfl, hsg, hbn⟩
  have HR4 := Lib.hid hsg
  clear hsg
  have HBB4 := Lib.hid (below_then HBB3.out hbn)
  have HX4 := Lib.hid (HX3.out.later hbn)
  have HS4 := Lib.hid (HS3.out.later hbn)
  have HK4 := Lib.hid (HK3.out.later hbn)
  clear hbn
  go_wp2_with (with_reducible refine stop_store 105 _ _ rfl ?_)
  refine StopD.go ?_
  obtain ⟨g5, hg⟩ : ∃ g, w4.heap.size = g := ⟨_, rfl⟩
  have hbn : Below w4.heap.size w4 (w4.alloc (.cells #[.int .u8 0, .int .u8 0, .int .u8 0, .int .u8 0, .int .u8 0, .int .u8 0, .int .u8 0, .int .u8 0, .int .i64 0, .slice none 0 0, .slice none 0 0] 105)) := below_new w4 _
  have kt : Bk (w4.alloc (.cells #[.int .u8 0, .int .u8 0, .int .u8 0, .int .u8 0, .int .u8 0, .int .u8 0, .int .u8 0, .int .u8 0, .int .i64 0, .slice none 0 0, .slice none 0 0] 105)) g5 105 ([] ++ (sgC 0 zeroD (.slice none 0 0) (.slice none 0 0) ++ [])) := by rw [← hg]; exact Bk.new' w4 _ #[.int .u8 0, .int .u8 0, .int .u8 0, .int .u8 0, .int .u8 0, .int .u8 0, .int .u8 0, .int .u8 0, .int .i64 0, .slice none 0 0, .slice none 0 0] rfl
  rw [hg]
  refine wpList_store_part rfl 105 _ _ rfl g5 0 (.agg (ds).toArray) (ds) rfl rfl rfl 105 [] _ [] kt rfl (by rw [HR4.out.len]; rfl) (HR4.out.rinfo) HR4.out.one ?_
  intro w5 hp
  have hbn : Below w4.heap.size w4 w5 := hbn.grown hp.only hbn.size (fun q hq => by injection hq with hq; omega)
  have HL5 : Hid (Bk w5 g5 105 (ds)) := by show Bk _ _ _ _; have := hp.bk; simpa using this
  clear hp kt hg
  have HBB5 := Lib.hid (below_then HBB4.out hbn)
  have HX5 := Lib.hid (HX4.out.later hbn)
  have HS5 := Lib.hid (HS4.out.later hbn)
  have HK5 := Lib.hid (HK4.out.later hbn)
  have HR5 := Lib.hid (HR4.out.later hbn)
  clear hbn
  go_wp2_with (with_reducible refine wpList_load_bk rfl 101 _ rfl g3 rfl cs 101 HK5.out _ Try.underlying101 rfl HS5.out.info ?_)
  refine (plainV HS5.out).mono ?_
  rintro e w6 ⟨es, rfl, hsg, hbn⟩
  have HP6 := Lib.hid hsg
  clear hsg
  have HBB6 := Lib.hid (below_then HBB5.out hbn)
  have HX6 := Lib.hid (HX5.out.later hbn)
  have HS6 := Lib.hid (HS5.out.later hbn)
  have HK6 := Lib.hid (HK5.out.later hbn)
  have HR6 := Lib.hid (HR5.out.later hbn)
  have HL6 := Lib.hid (HL5.out.later hbn)
  clear hbn
  go_wp2_with (with_reducible refine stop_store 101 _ _ rfl ?_)
  refine StopD.go ?_
  obtain ⟨g7, hg⟩ : ∃ g, w6.heap.size = g := ⟨_, rfl⟩
  have hbn : Below w6.heap.size w6 ((w6.alloc (.cells #[.int .u8 0, .int .u8 0, .int .u8 0, .int .u8 0, .int .u8 0, .int .u8 0, .int .u8 0, .int .u8 0, .int .i64 0, .slice none 0 0, .slice none 0 0] 101)).alloc (.cells #[.int .u8 0, .int .u8 0, .int .u8 0, .int .u8 0, .int .u8 0, .int .u8 0, .int .u8 0, .int .u8 0, .int .i64 0, .slice none 0 0, .slice none 0 0] 105)) := (below_new w6 _).alloc (by simp) _
  have kt : Bk ((w6.alloc (.cells #[.int .u8 0, .int .u8 0, .int .u8 0, .int .u8 0, .int .u8 0, .int .u8 0, .int .u8 0, .int .u8 0, .int .i64 0, .slice none 0 0, .slice none 0 0] 101)).alloc (.cells #[.int .u8 0, .int .u8 0, .int .u8 0, .int .u8 0, .int .u8 0, .int .u8 0, .int .u8 0, .int .u8 0, .int .i64 0, .slice none 0 0, .slice none 0 0] 105)) g7 101 ([] ++ (sgC 0 zeroD (.slice none 0 0) (.slice none 0 0) ++ [])) := by rw [← hg]; exact (Bk.new' w6 _ #[.int .u8 0, .int .u8 0, .int .u8 0, .int .u8 0, .int .u8 0, .int .u8 0, .int .u8 0, .int .u8 0, .int .i64 0, .slice none 0 0, .slice none 0 0] rfl).alloc _
  have ku : Bk ((w6.alloc (.cells #[.int .u8 0, .int .u8 0, .int .u8 0, .int .u8 0, .int .u8 0, .int .u8 0, .int .u8 0, .int .u8 0, .int .i64 0, .slice none 0 0, .slice none 0 0] 101)).alloc (.cells #[.int .u8 0, .int .u8 0, .int .u8 0, .int .u8 0, .int .u8 0, .int .u8 0, .int .u8 0, .int .u8 0, .int .i64 0, .slice none 0 0, .slice none 0 0] 105)) (g7 + 1) 105 (sgC 0 zeroD (.slice none 0 0) (.slice none 0 0)) := by rw [← hg]; exact Bk.at_ _ _ _ (by simp) rfl
  rw [hg]
  refine wpList_store_part rfl 101 _ _ rfl g7 0 (.agg (es).toArray) (es) rfl rfl rfl 101 [] _ [] kt rfl (by rw [HP6.out.len]; rfl) HP6.out.info HP6.out.one ?_
  intro wq hp
  have hbn : Below w6.heap.size w6 wq := hbn.grown hp.only hbn.size (fun q hq => by injection hq with hq; omega)
  have kt : Bk wq g7 101 (es) := by have := hp.bk; simpa using this
  have ku : Bk wq (g7 + 1) 105 ([] ++ (sgC 0 zeroD (.slice none 0 0) (.slice none 0 0) ++ [])) := by have := ku.grown hp.only (by intro h; injection h with h; omega); simpa using this
  clear hp
  go_wp2_with (with_reducible refine stop_store 105 _ _ rfl ?_)
  refine StopD.go ?_
  refine wpList_store_part rfl 105 _ _ rfl (g7 + 1) 0 (.agg (es).toArray) (es) rfl rfl rfl 105 [] _ [] ku rfl (by rw [HP6.out.len]; rfl) HP6.out.rinfo HP6.out.one ?_
  intro w7 hp
  have hbn : Below w6.heap.size w6 w7 := hbn.grown hp.only hbn.size (fun q hq => by injection hq with hq; omega)
  have HM7 : Hid (Bk w7 g7 101 (es)) := kt.grown hp.only (by intro h; injection h with h; omega)
  have HN7 : Hid (Bk w7 (g7 + 1) 105 (es)) := by show Bk _ _ _ _; have := hp.bk; simpa using this
  clear hp kt ku hg
  have HBB7 := Lib.hid (below_then HBB6.out hbn)
  have HX7 := Lib.hid (HX6.out.later hbn)
  have HS7 := Lib.hid (HS6.out.later hbn)
  have HK7 := Lib.hid (HK6.out.later hbn)
  have HR7 := Lib.hid (HR6.out.later hbn)
  have HL7 := Lib.hid (HL6.out.later hbn)
  have HP7 := Lib.hid (HP6.out.later hbn)
  clear hbn
  have hee : ((J.e : Int) != J.e) = false := by simp
  go_wp2_with fail
  refine (stold_any w7).mono ?_
  rintro e w8 ⟨rfl, hbn⟩
  have HBB8 := Lib.hid (below_then HBB7.out hbn)
  have HX8 := Lib.hid (HX7.out.later hbn)
  have HS8 := Lib.hid (HS7.out.later hbn)
  have HK8 := Lib.hid (HK7.out.later hbn)
  have HR8 := Lib.hid (HR7.out.later hbn)
  have HL8 := Lib.hid (HL7.out.later hbn)
  have HP8 := Lib.hid (HP7.out.later hbn)
  have HM8 := Lib.hid (HM7.out.later hbn)
  have HN8 := Lib.hid (HN7.out.later hbn)
  clear hbn
  go_wp2_with (first
    | ((with_reducible refine wpList_load_bkG ?_ 105 _ rfl (g7 + 1) rfl es 105 HN8.out _ Try.underlying105 rfl HP8.out.rinfo ?_); focus (rfl; done))
    | ((with_reducible refine wpList_load_bkG ?_ 105 _ rfl g5 rfl ds 105 HL8.out _ Try.underlying105 rfl HR8.out.rinfo ?_); focus (rfl; done)))
  refine (rsameR HP8.out.r HR8.out).mono ?_
  rw [sameG_few HSM.out]
  rintro e w9 ⟨rfl, hbn⟩
  have HBB9 := Lib.hid (below_then HBB8.out hbn)
  have HX9 := Lib.hid (HX8.out.later hbn)
  have HS9 := Lib.hid (HS8.out.later hbn)
  have HK9 := Lib.hid (HK8.out.later hbn)
  clear hbn
  by_cases h0 : J.e = 0
  · have h1 : (J.e != 0) = false := by simp [h0]
    have HJ := Lib.hid (HJK.out h0)
    have HEN := Lib.hid (encV HS9.out)
    rw [okG_of HJ.out.n0 HJ.out.n1 HJ.out.hp HJ.out.l2 HJ.out.l8 (fun x hx => (HJ.out.hL x hx).1)] at HEN
    have HC0 := Lib.hid (conv_any w9 _ A K0 C xs HX9.out)
    clear h0
    go_wp2_with (with_reducible refine wpList_load_bk rfl 101 _ rfl g3 rfl cs 101 HK9.out _ Try.underlying101 rfl HS9.out.info ?_)
    refine HEN.out.mono ?_
    rintro e w10 ⟨v, rfl, hown, hbn⟩
    rw [if_pos rfl] at hown ⊢
    rw [HJ.out.enc] at hown
    obtain ⟨A10, c10, rfl⟩ := own_form hown
    have hcv := conv_any w10 _ A10 xs.length c10 xs (Sl.of_own hown)
    have hcw := conv_any w10 _ A K0 C xs (HX9.out.later hbn)
    have hst : ((strOf xs).toList == (strOf xs).toList) = true := by simp
    have HB10 := Lib.hid (below_then HBB9.out hbn)
    clear hown hbn
    obtain ⟨s, hs⟩ : ∃ s, strOf xs = s := ⟨_, rfl⟩
    rw [hs] at hcv hcw hst
    clear hs
    go_wp2_with fail
    go_ret
    exact ⟨rfl, HB10.out⟩
  · have h1 : (J.e != 0) = true := by simpa using h0
    clear h0
    go_wp2_with fail
    go_ret
    exact ⟨rfl, HBB9.out⟩
end Go.Proofs.Ythibihjblodfmaa
