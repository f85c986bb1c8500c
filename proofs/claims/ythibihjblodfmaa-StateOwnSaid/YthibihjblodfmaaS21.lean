/- Whether a signed state may be told: the program's and the document's. -/
import Derived.Test.YthibihjblodfmaaS15
namespace Go.Proofs.Ythibihjblodfmaa
open Go.RowKit Go.Maps

def headG (n : Int) (N M : Nat) : Bool := decide (0 ≤ n) && decide (n ≤ 1099511627776) && decide (N ≤ 4096) && decide (2 ≤ M) && decide (M ≤ 8)
def sigsG (qs : List Pc) : Bool := qs.all fun p => decide (p.n ≤ 4096)
def rightG (n : Int) (N M : Nat) (qs : List Pc) : Bool := headG n N M && sigsG qs
theorem sigsG_step {qs : List Pc} {k : Nat} {p : Pc} (h : qs[k]? = some p) : sigsG (qs.take (k + 1)) = (sigsG (qs.take k) && decide (p.n ≤ 4096)) := by
  rw [take_snoc h]; simp [sigsG]
theorem head_false {n : Int} {N M : Nat} (h : ¬ (0 ≤ n ∧ n ≤ 1099511627776 ∧ N ≤ 4096 ∧ 2 ≤ M ∧ M ≤ 8)) : headG n N M = false := by
  unfold headG; rw [← Bool.not_eq_true]; simp only [Bool.and_eq_true, decide_eq_true_eq]; omega
theorem head_true {n : Int} {N M : Nat} (h : 0 ≤ n ∧ n ≤ 1099511627776 ∧ N ≤ 4096 ∧ 2 ≤ M ∧ M ≤ 8) : headG n N M = true := by
  unfold headG; simp only [Bool.and_eq_true, decide_eq_true_eq]; omega
set_option maxRecDepth 20000 in
set_option maxHeartbeats 4000000 in
theorem stTold_any (w : World) (t : List Int) (ht : DgOk t) (n : Int) (A B : Option Addr) (N C M D : Nat) (qs : List Pc) (hq : Sl w w.heap.size 1 B M (qs.map Pc.v)) :
    Calls Try.prog 110 #[.agg (sgC n t (.slice A N C) (.slice B M D)).toArray] w fun e w' => e = .returned (.bool (rightG n N M qs)) ∧ Below w.heap.size w w' := by
  have hMle := hq.le
  obtain ⟨X, hX⟩ : ∃ X, (sgC n t (.slice A N C) (.slice B M D)).toArray = X := ⟨_, rfl⟩
  obtain ⟨w1, hw1⟩ : ∃ w1, w.alloc (.cells X 101) = w1 := ⟨_, rfl⟩
  have hb1 : Below w.heap.size w w1 := hw1 ▸ below_new w _
  have kx : Bk w1 w.heap.size 101 (sgC n t (.slice A N C) (.slice B M D)) := hw1 ▸ Bk.new' w _ X (by rw [← hX])
  have HW := Lib.hid hw1; have HBB1 := Lib.hid hb1
  have c8 := (sg_mem ht kx).c8; have c9 := (sg_mem ht kx).c9; have c10 := (sg_mem ht kx).c10
  have HQ1 := Lib.hid (hq.later hb1); have HQL := Lib.hid hq.length
  have hNle : (0 : Int) ≤ N := by omega
  rw [hX]
  clear hX hw1 hb1 kx hq ht
  go_enter Try.func110, Try.ntmps110
  go_upto_region 1 with fail
  rw [HW.out]
  by_cases h1 : 0 ≤ n
  · have d1 : decide ((0 : Int) ≤ n) = true := by simp [h1]
    by_cases h2 : n ≤ 1099511627776
    · have d2 : decide (n ≤ 1099511627776) = true := by simp [h2]
      by_cases h3 : N ≤ 4096
      · have d3 : decide ((N : Int) ≤ 4096) = true := by simp; omega
        have i3 : (N : Int) ≤ 4096 := by omega
        by_cases h4 : 2 ≤ M
        · have d4 : decide ((2 : Int) ≤ M) = true := by simp; omega
          have i4 : (2 : Int) ≤ M := by omega
          by_cases h5 : M ≤ 8
          · have d5 : decide ((M : Int) ≤ 8) = true := by simp; omega
            have i5 : (M : Int) ≤ 8 := by omega
            obtain ⟨rb, hrb⟩ : ∃ b, true = b := ⟨_, rfl⟩
            have HRB := Lib.hid hrb
            have HRH : Hid (headG n N M = rb) := by show _ = _; rw [← hrb]; exact head_true ⟨h1, h2, h3, h4, h5⟩
            clear hrb
            go_wp2_with fail
            go_loopw [3, 38] (fun rv iv wr => ∃ k : Nat, k ≤ M ∧ iv = .int .i64 k ∧ w1 = wr ∧ rv = .bool (rb && sigsG (qs.take k))) (fun _ iv _ => M - (intOf iv).toNat)
            case atStart => exact ⟨0, Nat.zero_le _, rfl, rfl, by simp [sigsG, ← HRB.out]⟩
            case round =>
              obtain ⟨k, hk, rfl, rfl, rfl⟩ := hrel
              by_cases hlt : k < M
              · obtain ⟨b, o, p, rfl, hpk, _, hcc⟩ := pc_at HQ1.out hlt
                have hki : (k : Int) < M := by omega
                have HST := Lib.hid (sigsG_step hpk)
                obtain ⟨sb, hsb⟩ : ∃ s, (rb && sigsG (qs.take k)) = s := ⟨_, rfl⟩
                have HSB := Lib.hid hsb
                rw [hsb]
                clear hpk hsb
                cases sb
                · have HN : Hid ((rb && sigsG (qs.take (k + 1))) = false) := by show _ = _; rw [HST.out, ← Bool.and_assoc, HSB.out]; rfl
                  go_wp2_with fail
                  go_roundw
                  case rel => exact ⟨k + 1, by omega, by go_num, by first | rfl | trivial, by rw [HN.out]⟩
                  case measure => simp [intOf]; omega
                · have HN : Hid ((rb && sigsG (qs.take (k + 1))) = decide (p.n ≤ 4096)) := by show _ = _; rw [HST.out, ← Bool.and_assoc, HSB.out]; simp
                  by_cases hp4 : p.n ≤ 4096
                  · have h4 : (p.n : Int) ≤ 4096 := by omega
                    have h5 : decide ((p.n : Int) ≤ 4096) = true := by simp; omega
                    go_wp2_with fail
                    go_roundw
                    case rel => exact ⟨k + 1, by omega, by go_num, by first | rfl | trivial, by rw [HN.out]; simp [hp4]⟩
                    case measure => simp [intOf]; omega
                  · have h4 : ¬ ((p.n : Int) ≤ 4096) := by omega
                    have h5 : decide ((p.n : Int) ≤ 4096) = false := by simp; omega
                    go_wp2_with fail
                    go_roundw
                    case rel => exact ⟨k + 1, by omega, by go_num, by first | rfl | trivial, by rw [HN.out]; simp [hp4]⟩
                    case measure => simp [intOf]; omega
              · have hkk : M = k := by omega
                subst hkk
                have HE : Hid (rightG n N M qs = (rb && sigsG (qs.take M))) := by show _ = _; rw [rightG, HRH.out, List.take_of_length_le (by rw [HQL.out]; omega)]
                obtain ⟨sb, hsb⟩ : ∃ s, (rb && sigsG (qs.take M)) = s := ⟨_, rfl⟩
                have HSB := Lib.hid hsb
                rw [hsb]
                clear hsb
                go_wp2_with fail
                go_ret
                exact ⟨by rw [HE.out, HSB.out]; rfl, HBB1.out⟩
          · have d5 : decide ((M : Int) ≤ 8) = false := by simp; omega
            have i5 : ¬ ((M : Int) ≤ 8) := by omega
            obtain ⟨rb, hrb⟩ : ∃ b, false = b := ⟨_, rfl⟩
            have HRB := Lib.hid hrb
            have HRH : Hid (headG n N M = rb) := by show _ = _; rw [← hrb]; exact head_false (by omega)
            clear hrb
            go_wp2_with fail
            go_loopw [3, 38] (fun rv iv wr => ∃ k : Nat, k ≤ M ∧ iv = .int .i64 k ∧ w1 = wr ∧ rv = .bool (rb && sigsG (qs.take k))) (fun _ iv _ => M - (intOf iv).toNat)
            case atStart => exact ⟨0, Nat.zero_le _, rfl, rfl, by simp [sigsG, ← HRB.out]⟩
            case round =>
              obtain ⟨k, hk, rfl, rfl, rfl⟩ := hrel
              by_cases hlt : k < M
              · obtain ⟨b, o, p, rfl, hpk, _, hcc⟩ := pc_at HQ1.out hlt
                have hki : (k : Int) < M := by omega
                have HST := Lib.hid (sigsG_step hpk)
                obtain ⟨sb, hsb⟩ : ∃ s, (rb && sigsG (qs.take k)) = s := ⟨_, rfl⟩
                have HSB := Lib.hid hsb
                rw [hsb]
                clear hpk hsb
                cases sb
                · have HN : Hid ((rb && sigsG (qs.take (k + 1))) = false) := by show _ = _; rw [HST.out, ← Bool.and_assoc, HSB.out]; rfl
                  go_wp2_with fail
                  go_roundw
                  case rel => exact ⟨k + 1, by omega, by go_num, by first | rfl | trivial, by rw [HN.out]⟩
                  case measure => simp [intOf]; omega
                · have HN : Hid ((rb && sigsG (qs.take (k + 1))) = decide (p.n ≤ 4096)) := by show _ = _; rw [HST.out, ← Bool.and_assoc, HSB.out]; simp
                  by_cases hp4 : p.n ≤ 4096
                  · have h4 : (p.n : Int) ≤ 4096 := by omega
                    have h5 : decide ((p.n : Int) ≤ 4096) = true := by simp; omega
                    go_wp2_with fail
                    go_roundw
                    case rel => exact ⟨k + 1, by omega, by go_num, by first | rfl | trivial, by rw [HN.out]; simp [hp4]⟩
                    case measure => simp [intOf]; omega
                  · have h4 : ¬ ((p.n : Int) ≤ 4096) := by omega
                    have h5 : decide ((p.n : Int) ≤ 4096) = false := by simp; omega
                    go_wp2_with fail
                    go_roundw
                    case rel => exact ⟨k + 1, by omega, by go_num, by first | rfl | trivial, by rw [HN.out]; simp [hp4]⟩
                    case measure => simp [intOf]; omega
              · have hkk : M = k := by omega
                subst hkk
                have HE : Hid (rightG n N M qs = (rb && sigsG (qs.take M))) := by show _ = _; rw [rightG, HRH.out, List.take_of_length_le (by rw [HQL.out]; omega)]
                obtain ⟨sb, hsb⟩ : ∃ s, (rb && sigsG (qs.take M)) = s := ⟨_, rfl⟩
                have HSB := Lib.hid hsb
                rw [hsb]
                clear hsb
                go_wp2_with fail
                go_ret
                exact ⟨by rw [HE.out, HSB.out]; rfl, HBB1.out⟩
        · have d4 : decide ((2 : Int) ≤ M) = false := by simp; omega
          have i4 : ¬ ((2 : Int) ≤ M) := by omega
          obtain ⟨rb, hrb⟩ : ∃ b, false = b := ⟨_, rfl⟩
          have HRB := Lib.hid hrb
          have HRH : Hid (headG n N M = rb) := by show _ = _; rw [← hrb]; exact head_false (by omega)
          clear hrb
          go_wp2_with fail
          go_loopw [3, 38] (fun rv iv wr => ∃ k : Nat, k ≤ M ∧ iv = .int .i64 k ∧ w1 = wr ∧ rv = .bool (rb && sigsG (qs.take k))) (fun _ iv _ => M - (intOf iv).toNat)
          case atStart => exact ⟨0, Nat.zero_le _, rfl, rfl, by simp [sigsG, ← HRB.out]⟩
          case round =>
            obtain ⟨k, hk, rfl, rfl, rfl⟩ := hrel
            by_cases hlt : k < M
            · obtain ⟨b, o, p, rfl, hpk, _, hcc⟩ := pc_at HQ1.out hlt
              have hki : (k : Int) < M := by omega
              have HST := Lib.hid (sigsG_step hpk)
              obtain ⟨sb, hsb⟩ : ∃ s, (rb && sigsG (qs.take k)) = s := ⟨_, rfl⟩
              have HSB := Lib.hid hsb
              rw [hsb]
              clear hpk hsb
              cases sb
              · have HN : Hid ((rb && sigsG (qs.take (k + 1))) = false) := by show _ = _; rw [HST.out, ← Bool.and_assoc, HSB.out]; rfl
                go_wp2_with fail
                go_roundw
                case rel => exact ⟨k + 1, by omega, by go_num, by first | rfl | trivial, by rw [HN.out]⟩
                case measure => simp [intOf]; omega
              · have HN : Hid ((rb && sigsG (qs.take (k + 1))) = decide (p.n ≤ 4096)) := by show _ = _; rw [HST.out, ← Bool.and_assoc, HSB.out]; simp
                by_cases hp4 : p.n ≤ 4096
                · have h4 : (p.n : Int) ≤ 4096 := by omega
                  have h5 : decide ((p.n : Int) ≤ 4096) = true := by simp; omega
                  go_wp2_with fail
                  go_roundw
                  case rel => exact ⟨k + 1, by omega, by go_num, by first | rfl | trivial, by rw [HN.out]; simp [hp4]⟩
                  case measure => simp [intOf]; omega
                · have h4 : ¬ ((p.n : Int) ≤ 4096) := by omega
                  have h5 : decide ((p.n : Int) ≤ 4096) = false := by simp; omega
                  go_wp2_with fail
                  go_roundw
                  case rel => exact ⟨k + 1, by omega, by go_num, by first | rfl | trivial, by rw [HN.out]; simp [hp4]⟩
                  case measure => simp [intOf]; omega
            · have hkk : M = k := by omega
              subst hkk
              have HE : Hid (rightG n N M qs = (rb && sigsG (qs.take M))) := by show _ = _; rw [rightG, HRH.out, List.take_of_length_le (by rw [HQL.out]; omega)]
              obtain ⟨sb, hsb⟩ : ∃ s, (rb && sigsG (qs.take M)) = s := ⟨_, rfl⟩
              have HSB := Lib.hid hsb
              rw [hsb]
              clear hsb
              go_wp2_with fail
              go_ret
              exact ⟨by rw [HE.out, HSB.out]; rfl, HBB1.out⟩
      · have d3 : decide ((N : Int) ≤ 4096) = false := by simp; omega
        have i3 : ¬ ((N : Int) ≤ 4096) := by omega
        obtain ⟨rb, hrb⟩ : ∃ b, false = b := ⟨_, rfl⟩
        have HRB := Lib.hid hrb
        have HRH : Hid (headG n N M = rb) := by show _ = _; rw [← hrb]; exact head_false (by omega)
        clear hrb
        go_wp2_with fail
        go_loopw [3, 38] (fun rv iv wr => ∃ k : Nat, k ≤ M ∧ iv = .int .i64 k ∧ w1 = wr ∧ rv = .bool (rb && sigsG (qs.take k))) (fun _ iv _ => M - (intOf iv).toNat)
        case atStart => exact ⟨0, Nat.zero_le _, rfl, rfl, by simp [sigsG, ← HRB.out]⟩
        case round =>
          obtain ⟨k, hk, rfl, rfl, rfl⟩ := hrel
          by_cases hlt : k < M
          · obtain ⟨b, o, p, rfl, hpk, _, hcc⟩ := pc_at HQ1.out hlt
            have hki : (k : Int) < M := by omega
            have HST := Lib.hid (sigsG_step hpk)
            obtain ⟨sb, hsb⟩ : ∃ s, (rb && sigsG (qs.take k)) = s := ⟨_, rfl⟩
            have HSB := Lib.hid hsb
            rw [hsb]
            clear hpk hsb
            cases sb
            · have HN : Hid ((rb && sigsG (qs.take (k + 1))) = false) := by show _ = _; rw [HST.out, ← Bool.and_assoc, HSB.out]; rfl
              go_wp2_with fail
              go_roundw
              case rel => exact ⟨k + 1, by omega, by go_num, by first | rfl | trivial, by rw [HN.out]⟩
              case measure => simp [intOf]; omega
            · have HN : Hid ((rb && sigsG (qs.take (k + 1))) = decide (p.n ≤ 4096)) := by show _ = _; rw [HST.out, ← Bool.and_assoc, HSB.out]; simp
              by_cases hp4 : p.n ≤ 4096
              · have h4 : (p.n : Int) ≤ 4096 := by omega
                have h5 : decide ((p.n : Int) ≤ 4096) = true := by simp; omega
                go_wp2_with fail
                go_roundw
                case rel => exact ⟨k + 1, by omega, by go_num, by first | rfl | trivial, by rw [HN.out]; simp [hp4]⟩
                case measure => simp [intOf]; omega
              · have h4 : ¬ ((p.n : Int) ≤ 4096) := by omega
                have h5 : decide ((p.n : Int) ≤ 4096) = false := by simp; omega
                go_wp2_with fail
                go_roundw
                case rel => exact ⟨k + 1, by omega, by go_num, by first | rfl | trivial, by rw [HN.out]; simp [hp4]⟩
                case measure => simp [intOf]; omega
          · have hkk : M = k := by omega
            subst hkk
            have HE : Hid (rightG n N M qs = (rb && sigsG (qs.take M))) := by show _ = _; rw [rightG, HRH.out, List.take_of_length_le (by rw [HQL.out]; omega)]
            obtain ⟨sb, hsb⟩ : ∃ s, (rb && sigsG (qs.take M)) = s := ⟨_, rfl⟩
            have HSB := Lib.hid hsb
            rw [hsb]
            clear hsb
            go_wp2_with fail
            go_ret
            exact ⟨by rw [HE.out, HSB.out]; rfl, HBB1.out⟩
    · have d2 : decide (n ≤ 1099511627776) = false := by simp; omega
      obtain ⟨rb, hrb⟩ : ∃ b, false = b := ⟨_, rfl⟩
      have HRB := Lib.hid hrb
      have HRH : Hid (headG n N M = rb) := by show _ = _; rw [← hrb]; exact head_false (by omega)
      clear hrb
      go_wp2_with fail
      go_loopw [3, 38] (fun rv iv wr => ∃ k : Nat, k ≤ M ∧ iv = .int .i64 k ∧ w1 = wr ∧ rv = .bool (rb && sigsG (qs.take k))) (fun _ iv _ => M - (intOf iv).toNat)
      case atStart => exact ⟨0, Nat.zero_le _, rfl, rfl, by simp [sigsG, ← HRB.out]⟩
      case round =>
        obtain ⟨k, hk, rfl, rfl, rfl⟩ := hrel
        by_cases hlt : k < M
        · obtain ⟨b, o, p, rfl, hpk, _, hcc⟩ := pc_at HQ1.out hlt
          have hki : (k : Int) < M := by omega
          have HST := Lib.hid (sigsG_step hpk)
          obtain ⟨sb, hsb⟩ : ∃ s, (rb && sigsG (qs.take k)) = s := ⟨_, rfl⟩
          have HSB := Lib.hid hsb
          rw [hsb]
          clear hpk hsb
          cases sb
          · have HN : Hid ((rb && sigsG (qs.take (k + 1))) = false) := by show _ = _; rw [HST.out, ← Bool.and_assoc, HSB.out]; rfl
            go_wp2_with fail
            go_roundw
            case rel => exact ⟨k + 1, by omega, by go_num, by first | rfl | trivial, by rw [HN.out]⟩
            case measure => simp [intOf]; omega
          · have HN : Hid ((rb && sigsG (qs.take (k + 1))) = decide (p.n ≤ 4096)) := by show _ = _; rw [HST.out, ← Bool.and_assoc, HSB.out]; simp
            by_cases hp4 : p.n ≤ 4096
            · have h4 : (p.n : Int) ≤ 4096 := by omega
              have h5 : decide ((p.n : Int) ≤ 4096) = true := by simp; omega
              go_wp2_with fail
              go_roundw
              case rel => exact ⟨k + 1, by omega, by go_num, by first | rfl | trivial, by rw [HN.out]; simp [hp4]⟩
              case measure => simp [intOf]; omega
            · have h4 : ¬ ((p.n : Int) ≤ 4096) := by omega
              have h5 : decide ((p.n : Int) ≤ 4096) = false := by simp; omega
              go_wp2_with fail
              go_roundw
              case rel => exact ⟨k + 1, by omega, by go_num, by first | rfl | trivial, by rw [HN.out]; simp [hp4]⟩
              case measure => simp [intOf]; omega
        · have hkk : M = k := by omega
          subst hkk
          have HE : Hid (rightG n N M qs = (rb && sigsG (qs.take M))) := by show _ = _; rw [rightG, HRH.out, List.take_of_length_le (by rw [HQL.out]; omega)]
          obtain ⟨sb, hsb⟩ : ∃ s, (rb && sigsG (qs.take M)) = s := ⟨_, rfl⟩
          have HSB := Lib.hid hsb
          rw [hsb]
          clear hsb
          go_wp2_with fail
          go_ret
          exact ⟨by rw [HE.out, HSB.out]; rfl, HBB1.out⟩
  · have d1 : decide ((0 : Int) ≤ n) = false := by simp; omega
    obtain ⟨rb, hrb⟩ : ∃ b, false = b := ⟨_, rfl⟩
    have HRB := Lib.hid hrb
    have HRH : Hid (headG n N M = rb) := by show _ = _; rw [← hrb]; exact head_false (by omega)
    clear hrb
    go_wp2_with fail
    go_loopw [3, 38] (fun rv iv wr => ∃ k : Nat, k ≤ M ∧ iv = .int .i64 k ∧ w1 = wr ∧ rv = .bool (rb && sigsG (qs.take k))) (fun _ iv _ => M - (intOf iv).toNat)
    case atStart => exact ⟨0, Nat.zero_le _, rfl, rfl, by simp [sigsG, ← HRB.out]⟩
    case round =>
      obtain ⟨k, hk, rfl, rfl, rfl⟩ := hrel
      by_cases hlt : k < M
      · obtain ⟨b, o, p, rfl, hpk, _, hcc⟩ := pc_at HQ1.out hlt
        have hki : (k : Int) < M := by omega
        have HST := Lib.hid (sigsG_step hpk)
        obtain ⟨sb, hsb⟩ : ∃ s, (rb && sigsG (qs.take k)) = s := ⟨_, rfl⟩
        have HSB := Lib.hid hsb
        rw [hsb]
        clear hpk hsb
        cases sb
        · have HN : Hid ((rb && sigsG (qs.take (k + 1))) = false) := by show _ = _; rw [HST.out, ← Bool.and_assoc, HSB.out]; rfl
          go_wp2_with fail
          go_roundw
          case rel => exact ⟨k + 1, by omega, by go_num, by first | rfl | trivial, by rw [HN.out]⟩
          case measure => simp [intOf]; omega
        · have HN : Hid ((rb && sigsG (qs.take (k + 1))) = decide (p.n ≤ 4096)) := by show _ = _; rw [HST.out, ← Bool.and_assoc, HSB.out]; simp
          by_cases hp4 : p.n ≤ 4096
          · have h4 : (p.n : Int) ≤ 4096 := by omega
            have h5 : decide ((p.n : Int) ≤ 4096) = true := by simp; omega
            go_wp2_with fail
            go_roundw
            case rel => exact ⟨k + 1, by omega, by go_num, by first | rfl | trivial, by rw [HN.out]; simp [hp4]⟩
            case measure => simp [intOf]; omega
          · have h4 : ¬ ((p.n : Int) ≤ 4096) := by omega
            have h5 : decide ((p.n : Int) ≤ 4096) = false := by simp; omega
            go_wp2_with fail
            go_roundw
            case rel => exact ⟨k + 1, by omega, by go_num, by first | rfl | trivial, by rw [HN.out]; simp [hp4]⟩
            case measure => simp [intOf]; omega
      · have hkk : M = k := by omega
        subst hkk
        have HE : Hid (rightG n N M qs = (rb && sigsG (qs.take M))) := by show _ = _; rw [rightG, HRH.out, List.take_of_length_le (by rw [HQL.out]; omega)]
        obtain ⟨sb, hsb⟩ : ∃ s, (rb && sigsG (qs.take M)) = s := ⟨_, rfl⟩
        have HSB := Lib.hid hsb
        rw [hsb]
        clear hsb
        go_wp2_with fail
        go_ret
        exact ⟨by rw [HE.out, HSB.out]; rfl, HBB1.out⟩
set_option maxRecDepth 20000 in
set_option maxHeartbeats 4000000 in
theorem right_any (w : World) (t : List Int) (ht : DgOk t) (n : Int) (A B : Option Addr) (N C M D : Nat) (qs : List Pc) (hq : Sl w w.heap.size 1 B M (qs.map Pc.v)) :
    Calls Try.prog 60 #[.agg (sgC n t (.slice A N C) (.slice B M D)).toArray] w fun e w' => e = .returned (.bool (rightG n N M qs)) ∧ Below w.heap.size w w' := by
  have hMle := hq.le
  obtain ⟨X, hX⟩ : ∃ X, (sgC n t (.slice A N C) (.slice B M D)).toArray = X := ⟨_, rfl⟩
  obtain ⟨w1, hw1⟩ : ∃ w1, w.alloc (.cells X 105) = w1 := ⟨_, rfl⟩
  have hb1 : Below w.heap.size w w1 := hw1 ▸ below_new w _
  have kx : Bk w1 w.heap.size 105 (sgC n t (.slice A N C) (.slice B M D)) := hw1 ▸ Bk.new' w _ X (by rw [← hX])
  have HW := Lib.hid hw1; have HBB1 := Lib.hid hb1
  have c8 := (sg_mem ht kx).c8; have c9 := (sg_mem ht kx).c9; have c10 := (sg_mem ht kx).c10
  have HQ1 := Lib.hid (hq.later hb1); have HQL := Lib.hid hq.length
  have hNle : (0 : Int) ≤ N := by omega
  rw [hX]
  clear hX hw1 hb1 kx hq ht
  go_enter Try.func60, Try.ntmps60
  go_upto_region 1 with fail
  rw [HW.out]
  by_cases h1 : 0 ≤ n
  · have d1 : decide (n < 0) = false := by simp; omega
    have i1 : ¬ (n < 0) := by omega
    by_cases h2 : n ≤ 1099511627776
    · have d2 : decide (1099511627776 < n) = false := by simp; omega
      have i2 : ¬ (1099511627776 < n) := by omega
      by_cases h3 : N ≤ 4096
      · have d3 : decide ((4096 : Int) < N) = false := by simp; omega
        have i3 : ¬ ((4096 : Int) < N) := by omega
        by_cases h4 : 2 ≤ M
        · have d4 : decide ((M : Int) < 2) = false := by simp; omega
          have i4 : ¬ ((M : Int) < 2) := by omega
          by_cases h5 : M ≤ 8
          · have d5 : decide ((8 : Int) < M) = false := by simp; omega
            have i5 : ¬ ((8 : Int) < M) := by omega
            have HRH : Hid (headG n N M = true) := head_true ⟨h1, h2, h3, h4, h5⟩
            go_wp2_with fail
            go_loopw [3] (fun iv wr => ∃ k : Nat, k ≤ M ∧ iv = .int .i64 k ∧ w1 = wr ∧ Hid (sigsG (qs.take k) = true)) (fun iv _ => M - (intOf iv).toNat)
            case atStart => exact ⟨0, Nat.zero_le _, rfl, rfl, by show _ = _; simp [sigsG]⟩
            case round =>
              obtain ⟨k, hk, rfl, rfl, HS⟩ := hrel
              by_cases hlt : k < M
              · obtain ⟨b, o, p, rfl, hpk, _, hcc⟩ := pc_at HQ1.out hlt
                have hki : (k : Int) < M := by omega
                have HST := Lib.hid (sigsG_step hpk)
                have HPK := Lib.hid hpk
                clear hpk
                by_cases hp4 : p.n ≤ 4096
                · have h6 : ¬ ((4096 : Int) < p.n) := by omega
                  have h7 : decide ((4096 : Int) < p.n) = false := by simp; omega
                  go_wp2_with fail
                  go_roundw
                  case rel => exact ⟨k + 1, by omega, by go_num, by first | rfl | trivial, by show _ = _; rw [HST.out, HS.out]; simp [hp4]⟩
                  case measure => simp [intOf]; omega
                · have h6 : (4096 : Int) < p.n := by omega
                  have h7 : decide ((4096 : Int) < p.n) = true := by simp; omega
                  go_wp2_with fail
                  go_ret
                  refine ⟨?_, HBB1.out⟩
                  have : sigsG qs = false := by
                    rw [sigsG, List.all_eq_false]
                    exact ⟨p, List.mem_of_getElem? HPK.out, by simpa using hp4⟩
                  rw [rightG, this]; simp
              · have hkk : M = k := by omega
                subst hkk
                have HE : Hid (rightG n N M qs = true) := by show _ = _; have := HS.out; rw [List.take_of_length_le (by rw [HQL.out]; omega)] at this; rw [rightG, HRH.out, this]; rfl
                go_wp2_with fail
                go_ret
                exact ⟨by rw [HE.out]; rfl, HBB1.out⟩
          · have d5 : decide ((8 : Int) < M) = true := by simp; omega
            have i5 : (8 : Int) < M := by omega
            go_wp2_with fail
            go_ret
            exact ⟨by rw [rightG, head_false (by omega)]; rfl, HBB1.out⟩
        · have d4 : decide ((M : Int) < 2) = true := by simp; omega
          have i4 : (M : Int) < 2 := by omega
          go_wp2_with fail
          go_ret
          exact ⟨by rw [rightG, head_false (by omega)]; rfl, HBB1.out⟩
      · have d3 : decide ((4096 : Int) < N) = true := by simp; omega
        have i3 : (4096 : Int) < N := by omega
        go_wp2_with fail
        go_ret
        exact ⟨by rw [rightG, head_false (by omega)]; rfl, HBB1.out⟩
    · have d2 : decide (1099511627776 < n) = true := by simp; omega
      have i2 : 1099511627776 < n := by omega
      go_wp2_with fail
      go_ret
      exact ⟨by rw [rightG, head_false (by omega)]; rfl, HBB1.out⟩
  · have d1 : decide (n < 0) = true := by simp; omega
    have i1 : n < 0 := by omega
    go_wp2_with fail
    go_ret
    exact ⟨by rw [rightG, head_false (by omega)]; rfl, HBB1.out⟩
end Go.Proofs.Ythibihjblodfmaa
