/- A thing's bytes. -/
import Derived.Test.YthibihjblodfmaaQ6
namespace Go.Proofs.Ythibihjblodfmaa
open Go.RowKit

def encT (k n : Int) (t a xs ss : List Int) : List Int :=
  ((if k = 1 then ((numB k.toNat ++ (numB 8 ++ t)) ++ numB n.toNat) ++ (numB 8 ++ a) else (numB k.toNat ++ (numB 8 ++ t)) ++ numB n.toNat) ++ (numB xs.length ++ xs)) ++ (numB ss.length ++ ss)
def textT (k : Int) (ps qs : List Int) : List Int := if k = 0 then ps else qs
theorem numB_len (n : Nat) : (numB n).length ≤ 10 := (numF_len 9 n).2
/-- What 'Encode' hands back. -/
def RetEnc (c : Int) (bs : List Int) (w : World) (e : Ending) (w' : World) : Prop :=
  Below w.heap.size w w' ∧ ∃ v, e = .returned (.tuple #[v, .int .i64 c]) ∧ w'.ownsRow w.heap.size 5 1 v (if c = 0 then bs else []).length ((if c = 0 then bs else []).map (.int .u8))

theorem dg_sl {w : World} {g : Nat} {d : List Int} (hd : DgOk d) (h : Bk w g 29 (dl d)) : Sl w w.heap.size 1 (some ⟨g, 0, none⟩) 8 (d.map (.int .u8)) := Bk.sl h (by rw [List.length_map, hd.len]) (by omega) (fun _ _ h => h)
set_option maxRecDepth 20000 in
set_option maxHeartbeats 4000000 in
theorem encode_any (w : World) (k n m : Int) (t u v : List Int) (ht : DgOk t) (hu : DgOk u) (hv : DgOk v) (A1 A2 A3 : Option Addr) (N1 N2 N3 C1 C2 C3 : Nat) (ps qs ss : List Int) (hs : Sls w w.heap.size A1 A2 A3 N1 N2 N3 ps qs ss) :
    Calls Try.prog 18 #[.agg (thC k n m t u v (.slice A1 N1 C1) (.slice A2 N2 C2) (.slice A3 N3 C3)).toArray] w
      (RetEnc (checkT k n m t u v ps qs ss) (encT k (placeN k n m) (placeT k t u) (placeA k v) (textT k ps qs) ss) w) := by
  obtain ⟨X, hX⟩ : ∃ X, (thC k n m t u v (.slice A1 N1 C1) (.slice A2 N2 C2) (.slice A3 N3 C3)).toArray = X := ⟨_, rfl⟩
  obtain ⟨w1, hw1⟩ : ∃ w1, w.alloc (.cells X 35) = w1 := ⟨_, rfl⟩
  have hb1 : Below w.heap.size w w1 := hw1 ▸ below_new w _
  have kx : Bk w1 w.heap.size 35 (thC k n m t u v (.slice A1 N1 C1) (.slice A2 N2 C2) (.slice A3 N3 C3)) := hw1 ▸ Bk.new' w _ X (by rw [← hX])
  have HW := Lib.hid hw1; have HB := Lib.hid hb1; have HKX := Lib.hid kx; have HT := Lib.hid ht; have HU := Lib.hid hu; have HV := Lib.hid hv; have HS := Lib.hid (hs.later hb1)
  have HTH : Hid ((Try.prog.info? 35).map (·.size) = some (thC k n m t u v (.slice A1 N1 C1) (.slice A2 N2 C2) (.slice A3 N3 C3)).length) := by show _ = _; rw [thC_len ht hu hv]; exact th_size
  have HC := Lib.hid (check_any w1 k n m t u v ht hu hv A1 A2 A3 N1 N2 N3 C1 C2 C3 ps qs ss HS.out)
  rw [hX]
  obtain ⟨ck, hck⟩ : ∃ ck, checkT k n m t u v ps qs ss = ck := ⟨_, rfl⟩
  rw [hck] at HC ⊢
  by_cases hc : ck = 0
  · subst hc
    have hcc : (k = 0 ∨ k = 1) ∧ aloneB k n m t u v ps qs = true ∧ 0 ≤ (if k = 0 then n else m) ∧ (if k = 0 then n else m) ≤ 1099511627776 ∧ (if k = 0 then ps.length else qs.length) ≤ 4096 ∧ ss.length ≤ 4096 := by
      unfold checkT at hck
      by_cases h1 : k = 0 ∨ k = 1
      · rw [if_pos h1] at hck
        by_cases h2 : aloneB k n m t u v ps qs = true
        · rw [if_pos h2] at hck
          refine ⟨h1, h2, ?_⟩
          by_cases h3 : 0 ≤ (if k = 0 then n else m) ∧ (if k = 0 then n else m) ≤ 1099511627776 ∧ (if k = 0 then ps.length else qs.length) ≤ 4096 ∧ ss.length ≤ 4096
          · exact h3
          · rw [if_neg h3] at hck; simp at hck
        · rw [if_neg h2] at hck; simp at hck
      · rw [if_neg h1] at hck; simp at hck
    obtain ⟨hk, -, hn0, hn1, hx4, hs4⟩ := hcc
    obtain ⟨nn, hnn, hpn⟩ : ∃ nn : Nat, (if k = 0 then n else m) = (nn : Int) ∧ placeN k n m = nn := ⟨(if k = 0 then n else m).toNat, by omega, by
      rw [Int.toNat_of_nonneg hn0, placeN]
      rcases hk with rfl | rfl <;> simp⟩
    obtain ⟨A, N, C, xs, hpq, hxs, hsx, hxl⟩ : ∃ (A : Option Addr) (N C : Nat) (xs : List Int), (if k = 0 then Value.slice A1 N1 C1 else Value.slice A2 N2 C2) = .slice A N C ∧ textT k ps qs = xs ∧ Sl w1 w1.heap.size 1 A N (xs.map (.int .u8)) ∧ N ≤ 4096 := by
      have lp := hs.p.length; have lq := hs.q.length
      by_cases h0 : k = 0
      · exact ⟨A1, N1, C1, ps, by rw [if_pos h0], by rw [textT, if_pos h0], HS.out.p, by rw [if_pos h0] at hx4; omega⟩
      · exact ⟨A2, N2, C2, qs, by rw [if_neg h0], by rw [textT, if_neg h0], HS.out.q, by rw [if_neg h0] at hx4; omega⟩
    obtain ⟨kk, hkk, hkk1⟩ : ∃ kk : Nat, k = (kk : Int) ∧ kk ≤ 1 := ⟨k.toNat, by omega, by omega⟩
    subst hkk
    have hls : N3 ≤ 4096 := by have := hs.s.length; omega
    obtain ⟨tb, htb, htbo⟩ : ∃ tb, placeT (kk : Int) t u = tb ∧ DgOk tb := ⟨_, rfl, by
      rw [placeT]; split
      · exact ht
      · split
        · exact hu
        · exact zero_ok⟩
    obtain ⟨at_, hat, hato⟩ : ∃ at_, placeA (kk : Int) v = at_ ∧ DgOk at_ := ⟨_, rfl, by
      rw [placeA]; split
      · exact zero_ok
      · split
        · exact hv
        · exact zero_ok⟩
    rw [hpn, htb, hat, hxs]
    have HHAS : Hid (∀ W, Below w1.heap.size w1 W → Calls Try.prog 64 #[.agg (thC kk n m t u v (.slice A1 N1 C1) (.slice A2 N2 C2) (.slice A3 N3 C3)).toArray] W (fun e w' => (∃ b, e = .returned (.tuple #[.int .i64 nn, .slice A N C, .bool b])) ∧ Below W.heap.size W w')) := fun W hW => by
      refine (has_any W kk n m t u v ht hu hv A1 A2 A3 N1 N2 N3 C1 C2 C3 ps qs ss (HS.out.later hW)).mono ?_
      rintro e w' ⟨rfl, hb⟩
      exact ⟨⟨_, by rw [hnn, hpq]⟩, hb⟩
    have HPL : Hid (∀ W, Calls Try.prog 30 #[.agg (thC kk n m t u v (.slice A1 N1 C1) (.slice A2 N2 C2) (.slice A3 N3 C3)).toArray] W (fun e w' => e = .returned (.tuple #[.agg (dl tb).toArray, .int .i64 (nn : Int), .agg (dl at_).toArray]) ∧ Below W.heap.size W w')) := fun W => by
      have := place_any W kk n m t u v ht hu hv A1 A2 A3 N1 N2 N3 C1 C2 C3
      rw [hpn, htb, hat] at this
      exact this
    have HTB8 := Lib.hid (dg_sz htbo); have HAT8 := Lib.hid (dg_sz hato); have HTBO := Lib.hid htbo; have HATO := Lib.hid hato
    have HSX := Lib.hid hsx
    have hnn2 : (nn : Int) ≤ 1099511627776 := by omega
    have hkw : IntKind.u64.wrap (kk : Int) = kk := by rw [IntKind.wrap_u64]; omega
    have hnw : IntKind.u64.wrap (nn : Int) = nn := by rw [IntKind.wrap_u64]; omega
    have HXL : Hid (xs.length = N) := hsx.length
    have HSS := Lib.hid HS.out.s
    have HSL3 : Hid (ss.length = N3) := hs.s.length
    clear hX hw1 hb1 kx ht hu hv hs hck hn0 hn1 hx4 hs4 hnn hpn hpq hxs hsx htb htbo hat hato hk
    go_enter Try.func18, Try.ntmps18
    go_upto_region 1 with fail
    rw [HW.out]
    go_wp2_with (with_reducible refine wpList_load_bk rfl 35 _ rfl w.heap.size rfl (thC kk n m t u v (.slice A1 N1 C1) (.slice A2 N2 C2) (.slice A3 N3 C3)) 35 HKX.out _ Try.underlying35 rfl HTH.out ?_)
    refine HC.out.mono ?_
    rintro e w2 ⟨rfl, hb2⟩
    have HB2 := Lib.hid (below_then HB.out hb2); have HB12 := Lib.hid hb2
    have HK2 := Lib.hid (HKX.out.later hb2)
    clear hb2
    go_wp2_with (with_reducible refine wpList_load_bk rfl 35 _ rfl w.heap.size rfl (thC kk n m t u v (.slice A1 N1 C1) (.slice A2 N2 C2) (.slice A3 N3 C3)) 35 HK2.out _ Try.underlying35 rfl HTH.out ?_)
    refine (HPL.out _).mono ?_
    rintro e w3 ⟨rfl, hb3⟩
    have HB3 := Lib.hid (below_then HB2.out hb3); have HB13 := Lib.hid (below_then HB12.out hb3)
    have HK3 := Lib.hid (HK2.out.later hb3)
    clear hb3
    go_wp2_with (with_reducible refine stop_store 29 _ _ rfl ?_)
    refine StopD.go ?_
    have k5 : Bk ((w3.alloc (.cells #[.int .u8 0, .int .u8 0, .int .u8 0, .int .u8 0, .int .u8 0, .int .u8 0, .int .u8 0, .int .u8 0] 29)).alloc (.cells #[.int .u8 0, .int .u8 0, .int .u8 0, .int .u8 0, .int .u8 0, .int .u8 0, .int .u8 0, .int .u8 0] 29)) w3.heap.size 29 ([] ++ (dl zeroD ++ [])) := (Bk.new' w3 _ #[.int .u8 0, .int .u8 0, .int .u8 0, .int .u8 0, .int .u8 0, .int .u8 0, .int .u8 0, .int .u8 0] rfl).alloc _
    have k7 : Bk ((w3.alloc (.cells #[.int .u8 0, .int .u8 0, .int .u8 0, .int .u8 0, .int .u8 0, .int .u8 0, .int .u8 0, .int .u8 0] 29)).alloc (.cells #[.int .u8 0, .int .u8 0, .int .u8 0, .int .u8 0, .int .u8 0, .int .u8 0, .int .u8 0, .int .u8 0] 29)) (w3.heap.size + 1) 29 ([] ++ (dl zeroD ++ [])) := Bk.at_ _ _ #[.int .u8 0, .int .u8 0, .int .u8 0, .int .u8 0, .int .u8 0, .int .u8 0, .int .u8 0, .int .u8 0] (by simp) rfl
    have hb4 : Below w3.heap.size w3 ((w3.alloc (.cells #[.int .u8 0, .int .u8 0, .int .u8 0, .int .u8 0, .int .u8 0, .int .u8 0, .int .u8 0, .int .u8 0] 29)).alloc (.cells #[.int .u8 0, .int .u8 0, .int .u8 0, .int .u8 0, .int .u8 0, .int .u8 0, .int .u8 0, .int .u8 0] 29)) := (below_new w3 _).alloc (by simp) _
    refine wpList_store_part rfl 29 _ _ rfl w3.heap.size 0 (.agg (dl tb).toArray) (dl tb) rfl rfl rfl 29 [] (dl zeroD) [] k5 rfl (by rw [dl_len, dl_len, HTBO.out.len]; rfl) HTB8.out (dl_one tb) ?_
    intro w4 hp4
    go_wp2_with (with_reducible refine stop_store 29 _ _ rfl ?_)
    refine StopD.go ?_
    have k7' : Bk w4 (w3.heap.size + 1) 29 ([] ++ (dl zeroD ++ [])) := k7.grown hp4.only (by intro h; injection h with h; omega)
    refine wpList_store_part rfl 29 _ _ rfl (w3.heap.size + 1) 0 (.agg (dl at_).toArray) (dl at_) rfl rfl rfl 29 [] (dl zeroD) [] k7' rfl (by rw [dl_len, dl_len, HATO.out.len]; rfl) HAT8.out (dl_one at_) ?_
    intro w5 hp5
    have r5 : Bk w5 w3.heap.size 29 (dl tb) := by have := hp4.bk.grown hp5.only (by intro h; injection h with h; omega); simpa using this
    have r7 : Bk w5 (w3.heap.size + 1) 29 (dl at_) := by have := hp5.bk; simpa using this
    have hbn : Below w3.heap.size w3 w5 := (hb4.grown hp4.only hb4.size (fun q hq => by injection hq with hq; omega)).grown hp5.only (by rw [hp4.size]; exact hb4.size) (fun q hq => by injection hq with hq; omega)
    have HK5 := Lib.hid (HK3.out.later hbn)
    have HB5 := Lib.hid (below_then HB3.out hbn)
    have HB15 := Lib.hid (below_then HB13.out hbn)
    have HT5 := Lib.hid r5; have HA5 := Lib.hid r7
    have HX5 := Lib.hid (HSX.out.later HB15.out); have HG5 := Lib.hid (HSS.out.later HB15.out)
    obtain ⟨q, hq⟩ : ∃ q, w3.heap.size = q := ⟨_, rfl⟩
    rw [hq] at HT5 HA5 ⊢
    clear hq hp4 hp5 k5 k7 k7' r5 r7 hbn hb4 HK3 HB3 HB13 HK2 HB2 HB12 HSX HSS
    go_wp2_with (with_reducible refine wpList_load_bk rfl 35 _ rfl w.heap.size rfl (thC kk n m t u v (.slice A1 N1 C1) (.slice A2 N2 C2) (.slice A3 N3 C3)) 35 HK5.out _ Try.underlying35 rfl HTH.out ?_)
    refine (HHAS.out _ HB15.out).mono ?_
    rintro e w6 ⟨⟨b6, rfl⟩, hbn⟩
    have HK6 := Lib.hid (HK5.out.later hbn)
    have HT6 := Lib.hid (HT5.out.later hbn)
    have HA6 := Lib.hid (HA5.out.later hbn)
    have HX6 := Lib.hid (HX5.out.later hbn)
    have HG6 := Lib.hid (HG5.out.later hbn)
    have HB6 := Lib.hid (below_then HB5.out hbn)
    clear hbn
    have c0 := (th_mem HT.out HU.out HV.out HK6.out).c0
    go_wp2_with fail
    refine (putNum_any _ none 0 0 [] Sl.nil kk (by show _ < _; omega) (by omega)).mono ?_
    rintro e w7 ⟨v, rfl, hown⟩
    obtain ⟨B7, c7, rfl⟩ := hown.form
    have hbn := hown.2
    have HSL7 := Lib.hid hown.sl
    have HOW7 := Lib.hid hown.1
    clear hown
    have HK7 := Lib.hid (HK6.out.later hbn)
    have HT7 := Lib.hid (HT6.out.later hbn)
    have HA7 := Lib.hid (HA6.out.later hbn)
    have HX7 := Lib.hid (HX6.out.later hbn)
    have HG7 := Lib.hid (HG6.out.later hbn)
    have HB7 := Lib.hid (below_then HB6.out hbn)
    clear hbn
    obtain ⟨e7, he7⟩ : ∃ e7, [] ++ numB kk = e7 := ⟨_, rfl⟩
    have hl7 : e7.length ≤ 10 := by rw [← he7]; (try simp only [List.length_append]); have := numB_len kk; have := numB_len 8; have := numB_len nn; have := numB_len N; have := numB_len N3; have := HTBO.out.len; have := HATO.out.len; have := HXL.out; have := HSL3.out; have := @List.length_nil Int; omega
    rw [he7] at HSL7 HOW7 ⊢
    have HE7 := Lib.hid he7
    clear he7
    go_wp2_with fail
    refine (putBytes_any _ B7 (some ⟨q, 0, none⟩) _ c7 8 8 e7 tb HSL7.out (dg_sl HTBO.out HT7.out) (by omega) (by omega)).mono ?_
    rintro e w8 ⟨v, rfl, hown⟩
    obtain ⟨B8, c8, rfl⟩ := hown.form
    have hbn := hown.2
    have HSL8 := Lib.hid hown.sl
    have HOW8 := Lib.hid hown.1
    clear hown
    have HK8 := Lib.hid (HK7.out.later hbn)
    have HT8 := Lib.hid (HT7.out.later hbn)
    have HA8 := Lib.hid (HA7.out.later hbn)
    have HX8 := Lib.hid (HX7.out.later hbn)
    have HG8 := Lib.hid (HG7.out.later hbn)
    have HB8 := Lib.hid (below_then HB7.out hbn)
    clear hbn
    obtain ⟨e8, he8⟩ : ∃ e8, e7 ++ (numB 8 ++ tb) = e8 := ⟨_, rfl⟩
    have hl8 : e8.length ≤ 28 := by rw [← he8]; (try simp only [List.length_append]); have := numB_len kk; have := numB_len 8; have := numB_len nn; have := numB_len N; have := numB_len N3; have := HTBO.out.len; have := HATO.out.len; have := HXL.out; have := HSL3.out; have := @List.length_nil Int; omega
    rw [he8] at HSL8 HOW8 ⊢
    have HE8 := Lib.hid he8
    clear he8
    go_wp2_with fail
    refine (putNum_any _ B8 _ c8 e8 HSL8.out nn (by show _ < _; omega) (by omega)).mono ?_
    rintro e w9 ⟨v, rfl, hown⟩
    obtain ⟨B9, c9, rfl⟩ := hown.form
    have hbn := hown.2
    have HSL9 := Lib.hid hown.sl
    have HOW9 := Lib.hid hown.1
    clear hown
    have HK9 := Lib.hid (HK8.out.later hbn)
    have HT9 := Lib.hid (HT8.out.later hbn)
    have HA9 := Lib.hid (HA8.out.later hbn)
    have HX9 := Lib.hid (HX8.out.later hbn)
    have HG9 := Lib.hid (HG8.out.later hbn)
    have HB9 := Lib.hid (below_then HB8.out hbn)
    clear hbn
    obtain ⟨e9, he9⟩ : ∃ e9, e8 ++ numB nn = e9 := ⟨_, rfl⟩
    have hl9 : e9.length ≤ 38 := by rw [← he9]; (try simp only [List.length_append]); have := numB_len kk; have := numB_len 8; have := numB_len nn; have := numB_len N; have := numB_len N3; have := HTBO.out.len; have := HATO.out.len; have := HXL.out; have := HSL3.out; have := @List.length_nil Int; omega
    rw [he9] at HSL9 HOW9 ⊢
    have HE9 := Lib.hid he9
    clear he9
    have c0 := (th_mem HT.out HU.out HV.out HK9.out).c0
    by_cases h1 : kk = 1
    · have h2 : ((kk : Int) == 1) = true := by simp [h1]
      have HE4 : Hid (encT (kk : Int) (nn : Int) tb at_ xs ss = ((e9 ++ (numB 8 ++ at_)) ++ (numB N ++ xs)) ++ (numB N3 ++ ss)) := by
        show _ = _
        rw [← HE9.out, ← HE8.out, ← HE7.out, ← HXL.out, ← HSL3.out]
        unfold encT
        rw [if_pos (by omega)]
        simp only [Int.toNat_natCast, List.nil_append]
      clear h1
      go_wp2_with fail
      refine (putBytes_any _ B9 (some ⟨q + 1, 0, none⟩) _ c9 8 8 e9 at_ HSL9.out (dg_sl HATO.out HA9.out) (by omega) (by omega)).mono ?_
      rintro e w10 ⟨v, rfl, hown⟩
      obtain ⟨B10, c10, rfl⟩ := hown.form
      have hbn := hown.2
      have HSL10 := Lib.hid hown.sl
      have HOW10 := Lib.hid hown.1
      clear hown
      have HK10 := Lib.hid (HK9.out.later hbn)
      have HT10 := Lib.hid (HT9.out.later hbn)
      have HA10 := Lib.hid (HA9.out.later hbn)
      have HX10 := Lib.hid (HX9.out.later hbn)
      have HG10 := Lib.hid (HG9.out.later hbn)
      have HB10 := Lib.hid (below_then HB9.out hbn)
      clear hbn
      obtain ⟨e10, he10⟩ : ∃ e10, e9 ++ (numB 8 ++ at_) = e10 := ⟨_, rfl⟩
      have hl10 : e10.length ≤ 56 := by rw [← he10]; (try simp only [List.length_append]); have := numB_len kk; have := numB_len 8; have := numB_len nn; have := numB_len N; have := numB_len N3; have := HTBO.out.len; have := HATO.out.len; have := HXL.out; have := HSL3.out; have := @List.length_nil Int; omega
      rw [he10] at HSL10 HOW10 ⊢
      have HE10 := Lib.hid he10
      clear he10
      rw [HE10.out] at HE4
      go_wp2_with fail
      refine (putBytes_any _ B10 A _ c10 N C e10 xs HSL10.out HX10.out (by omega) (by omega)).mono ?_
      rintro e w11 ⟨v, rfl, hown⟩
      obtain ⟨B11, c11, rfl⟩ := hown.form
      have hbn := hown.2
      have HSL11 := Lib.hid hown.sl
      have HOW11 := Lib.hid hown.1
      clear hown
      have HK11 := Lib.hid (HK10.out.later hbn)
      have HT11 := Lib.hid (HT10.out.later hbn)
      have HA11 := Lib.hid (HA10.out.later hbn)
      have HX11 := Lib.hid (HX10.out.later hbn)
      have HG11 := Lib.hid (HG10.out.later hbn)
      have HB11 := Lib.hid (below_then HB10.out hbn)
      clear hbn
      obtain ⟨e11, he11⟩ : ∃ e11, e10 ++ (numB N ++ xs) = e11 := ⟨_, rfl⟩
      have hl11 : e11.length ≤ 4200 := by rw [← he11]; (try simp only [List.length_append]); have := numB_len kk; have := numB_len 8; have := numB_len nn; have := numB_len N; have := numB_len N3; have := HTBO.out.len; have := HATO.out.len; have := HXL.out; have := HSL3.out; have := @List.length_nil Int; omega
      rw [he11] at HSL11 HOW11 ⊢
      have HE11 := Lib.hid he11
      clear he11
      rw [HE11.out] at HE4
      have c29 := (th_mem HT.out HU.out HV.out HK11.out).c29
      go_wp2_with fail
      refine (putBytes_any _ B11 A3 _ c11 N3 C3 e11 ss HSL11.out HG11.out (by omega) (by omega)).mono ?_
      rintro e w12 ⟨v, rfl, hown⟩
      obtain ⟨B12, c12, rfl⟩ := hown.form
      have HB12 := Lib.hid (below_then HB11.out hown.2)
      have HOW12 := Lib.hid (own_base hown.1 HB11.out.size)
      clear hown
      rw [← HE4.out] at HOW12 ⊢
      go_wp2_with fail
      go_ret2
      refine ⟨HB12.out, _, rfl, ?_⟩
      rw [if_pos rfl]
      exact HOW12.out
    · have h2 : ((kk : Int) == 1) = false := by simp; omega
      have HE4 : Hid (encT (kk : Int) (nn : Int) tb at_ xs ss = (e9 ++ (numB N ++ xs)) ++ (numB N3 ++ ss)) := by
        show _ = _
        rw [← HE9.out, ← HE8.out, ← HE7.out, ← HXL.out, ← HSL3.out]
        unfold encT
        rw [if_neg (by omega)]
        simp only [Int.toNat_natCast, List.nil_append]
      clear h1
      have HSL10 := HSL9
      have HK10 := HK9; have HT10 := HT9; have HA10 := HA9; have HX10 := HX9; have HG10 := HG9; have HB10 := HB9
      obtain ⟨e10, he10⟩ : ∃ e10, e9 = e10 := ⟨_, rfl⟩
      subst he10
      have hl10 : e9.length ≤ 56 := by omega
      go_wp2_with fail
      refine (putBytes_any _ B9 A _ c9 N C e9 xs HSL10.out HX10.out (by omega) (by omega)).mono ?_
      rintro e w11 ⟨v, rfl, hown⟩
      obtain ⟨B11, c11, rfl⟩ := hown.form
      have hbn := hown.2
      have HSL11 := Lib.hid hown.sl
      have HOW11 := Lib.hid hown.1
      clear hown
      have HK11 := Lib.hid (HK10.out.later hbn)
      have HT11 := Lib.hid (HT10.out.later hbn)
      have HA11 := Lib.hid (HA10.out.later hbn)
      have HX11 := Lib.hid (HX10.out.later hbn)
      have HG11 := Lib.hid (HG10.out.later hbn)
      have HB11 := Lib.hid (below_then HB10.out hbn)
      clear hbn
      obtain ⟨e11, he11⟩ : ∃ e11, e9 ++ (numB N ++ xs) = e11 := ⟨_, rfl⟩
      have hl11 : e11.length ≤ 4200 := by rw [← he11]; (try simp only [List.length_append]); have := numB_len kk; have := numB_len 8; have := numB_len nn; have := numB_len N; have := numB_len N3; have := HTBO.out.len; have := HATO.out.len; have := HXL.out; have := HSL3.out; have := @List.length_nil Int; omega
      rw [he11] at HSL11 HOW11 ⊢
      have HE11 := Lib.hid he11
      clear he11
      rw [HE11.out] at HE4
      have c29 := (th_mem HT.out HU.out HV.out HK11.out).c29
      go_wp2_with fail
      refine (putBytes_any _ B11 A3 _ c11 N3 C3 e11 ss HSL11.out HG11.out (by omega) (by omega)).mono ?_
      rintro e w12 ⟨v, rfl, hown⟩
      obtain ⟨B12, c12, rfl⟩ := hown.form
      have HB12 := Lib.hid (below_then HB11.out hown.2)
      have HOW12 := Lib.hid (own_base hown.1 HB11.out.size)
      clear hown
      rw [← HE4.out] at HOW12 ⊢
      go_wp2_with fail
      go_ret2
      refine ⟨HB12.out, _, rfl, ?_⟩
      rw [if_pos rfl]
      exact HOW12.out
  · have hc1 : (ck != 0) = true := by simp [hc]
    have HCC := Lib.hid hc
    clear hX hw1 hb1 kx ht hu hv hs hck hc
    go_enter Try.func18, Try.ntmps18
    go_upto_region 1 with fail
    rw [HW.out]
    go_wp2_with (with_reducible refine wpList_load_bk rfl 35 _ rfl w.heap.size rfl (thC k n m t u v (.slice A1 N1 C1) (.slice A2 N2 C2) (.slice A3 N3 C3)) 35 HKX.out _ Try.underlying35 rfl HTH.out ?_)
    refine HC.out.mono ?_
    rintro e w2 ⟨rfl, hb2⟩
    have HB2 := Lib.hid (below_then HB.out hb2)
    clear hb2
    go_wp2_with fail
    go_ret2
    refine ⟨HB2.out, .slice none 0 0, rfl, ?_⟩
    rw [if_neg HCC.out]
    exact World.ownsRow_nil _ _ _ _
end Go.Proofs.Ythibihjblodfmaa
