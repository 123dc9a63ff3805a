/-
  THE WALK OF bailifflaw5.CombineSure: it returns true; only new memory is laid.
-/
import Derived.Test.YtlkikaeboeaadaaCombStepsW
namespace Go.Proofs.Ytlkikaeboeaadaa
open Go.RowKit
set_option linter.unusedVariables false

theorem beq_turn (a b : Nat × Nat) : (a == b) = (b == a) := by
  rw [Bool.eq_iff_iff, beq_iff_eq, beq_iff_eq]; exact ⟨Eq.symm, Eq.symm⟩
theorem alg_k (k : Nat) (h1 : 1 ≤ k) (h6 : k ≤ 6) (a : Option Addr) (c n : Nat) (l : List (Nat × Nat)) (hn : l.length = n) (w : World) (B : Nat) (hc : n ≤ 1000000) (hq : QPs l) (h : All6 l) (hs : Sl w B a (vm l)) :
    Calls Try.prog 30 #[.int .i64 (k : Int), .slice a n c] w fun e w' => e = .returned (.tuple #[.complex .f64 (qb (algP k l).1) (qb (algP k l).2), .int .i64 0]) ∧ w = w' := by
  have := alg_any (k - 1) (by omega) a c n l hn w B hc hq h hs
  rw [show (1 + ((k - 1 : Nat) : Int)) = (k : Int) by omega, show k - 1 + 1 = k by omega] at this
  exact this
set_option maxHeartbeats 16000000 in
theorem combineSure_walk (a0 : Option Addr) (cap0 : Nat) (l0 : List Int) (w : World) (hl0 : l0.length ≤ cap0) (hm0 : cap0 ≤ maxLen) (s0 : Sl w w.heap.size a0 (vints .i64 l0)) :
    Calls Try.prog 13 #[.slice a0 l0.length cap0] w fun e w' => e = .returned (.bool true) ∧ Below w.heap.size w w' := by
  go_enter Try.func13, Try.ntmps13
  go_wp2_with fail
  refine (row_any a0 cap0 _ l0 rfl w hl0 hm0 s0).mono ?_
  rintro e w1 ⟨v, rfl, hown, hb1⟩
  have hlen := rowP_length l0
  have HQ := hide (rowP_q l0)
  have H6 := hide (rowP_all6 l0)
  generalize rowP l0 = l at hown hlen HQ H6
  have hl20 : l.length ≤ 20 := by omega
  clear hlen s0
  obtain ⟨A, cap, rfl, hnc, hsl, _⟩ := own_slice hown
  have HB := hide hb1
  clear hown hb1
  go_wp2
  go_loop [4, 5, 6, 7, 21] (fun p d u m i => ∃ k : Nat, k ≤ l.length ∧ i = .int .i64 k ∧ p = .bool (hasP (4, 0) (l.take k)) ∧ d = .bool (hasP (0, 4) (l.take k)) ∧ u = .bool (!(l.take k).all sureP) ∧ m = .int .i64 ((F (l.take k)).length : Nat)) (fun _ _ _ _ i => l.length - (intOf i).toNat)
  case atStart => exact ⟨0, Nat.zero_le _, rfl, rfl, rfl, rfl, rfl⟩
  case round =>
    obtain ⟨k, hk, rfl, rfl, rfl, rfl, rfl⟩ := hrel
    by_cases hlt : k < l.length
    · obtain ⟨b, off, rfl, _, hcell⟩ := hsl.mark hlt
      have hU := all_take sureP l k hlt
      have hP := any_take (((4, 0) : Nat × Nat) == ·) l k hlt
      have hD := any_take (((0, 4) : Nat × Nat) == ·) l k hlt
      have hF := F_take l k hlt
      have hFl : (F (l.take k)).length ≤ k := Nat.le_trans (List.length_filter_le _ _) (List.length_take_le _ _)
      rw [beq_turn (4, 0)] at hP
      rw [beq_turn (0, 4)] at hD
      have hqm := HQ.out.at hlt
      have e0 : ((FloatKind.f64.format.order (qb l[k].1) 0 == some .eq) && (FloatKind.f64.format.order (qb l[k].2) 0 == some .eq)) = _ := mark_eq l[k].1 l[k].2 0 0 hqm (by decide) (by decide)
      have e1 : ((FloatKind.f64.format.order (qb l[k].1) 4607182418800017408 == some .eq) && (FloatKind.f64.format.order (qb l[k].2) 0 == some .eq)) = _ := mark_eq l[k].1 l[k].2 4 0 hqm (by decide) (by decide)
      have e2 : ((FloatKind.f64.format.order (qb l[k].1) 0 == some .eq) && (FloatKind.f64.format.order (qb l[k].2) 4607182418800017408 == some .eq)) = _ := mark_eq l[k].1 l[k].2 0 4 hqm (by decide) (by decide)
      have hx : (((l[k] == ((0, 0) : Nat × Nat)) && (l[k] == ((4, 0) : Nat × Nat)) || (l[k] == ((0, 0) : Nat × Nat)) && (l[k] == ((0, 4) : Nat × Nat)) || (l[k] == ((4, 0) : Nat × Nat)) && (l[k] == ((0, 4) : Nat × Nat)))) = false := by
        by_cases h0 : l[k] = (0, 0)
        · rw [h0]; decide
        · by_cases h1 : l[k] = (4, 0)
          · rw [h1]; decide
          · rw [beq_eq_false_iff_ne.2 h0, beq_eq_false_iff_ne.2 h1]; rfl
      rw [sure_e l[k] _ _ _ rfl rfl rfl] at hU
      change hasP (4, 0) (l.take (k + 1)) = (hasP (4, 0) (l.take k) || _) at hP
      change hasP (0, 4) (l.take (k + 1)) = (hasP (0, 4) (l.take k) || _) at hD
      generalize (l.take k).all sureP = U at hU ⊢
      generalize hasP (4, 0) (l.take k) = P at hP ⊢
      generalize hasP (0, 4) (l.take k) = D at hD ⊢
      generalize (F (l.take k)).length = n at hF hFl ⊢
      change _ = (l[k] == ((0, 0) : Nat × Nat)) at e0
      change _ = (l[k] == ((4, 0) : Nat × Nat)) at e1
      change _ = (l[k] == ((0, 4) : Nat × Nat)) at e2
      generalize (l[k] == ((0, 0) : Nat × Nat)) = E0 at hU hF e0 hx
      generalize (l[k] == ((4, 0) : Nat × Nat)) = E1 at hU hP e1 hx
      generalize (l[k] == ((0, 4) : Nat × Nat)) = E2 at hU hD e2 hx
      have HU := hide hU
      have HP := hide hP
      have HD := hide hD
      have HF := hide hF
      clear hsl hU hP hD hF hqm
      generalize qb l[k].1 = x at hcell e0 e1 e2
      generalize qb l[k].2 = y at hcell e0 e1 e2
      rcases E0 with _ | _ <;> rcases E1 with _ | _ <;> rcases E2 with _ | _ <;> (try (exfalso; exact absurd hx (by decide))) <;> clear hx <;> rcases U with _ | _ <;> rcases P with _ | _ <;> rcases D with _ | _
      all_goals
        go_wp2
        go_round
        case rel => exact ⟨k + 1, by omega, by go_num, by rw [HP.out]; rfl, by rw [HD.out]; rfl, by rw [HU.out]; rfl, by rw [HF.out]; simp⟩
        case measure => simp [intOf]; omega
    · obtain rfl : k = l.length := by omega
      rw [List.take_length]
      have hA := hide (alg_k 1 (by decide) (by decide) A cap _ l rfl w1 w1.heap.size (by omega) HQ.out H6.out hsl)
      have hB := hide (alg_k 2 (by decide) (by decide) A cap _ l rfl w1 w1.heap.size (by omega) HQ.out H6.out hsl)
      have hC := hide (alg_k 4 (by decide) (by decide) A cap _ l rfl w1 w1.heap.size (by omega) HQ.out H6.out hsl)
      have hqa := algP_q (k := 1) HQ.out
      have hqb := algP_q (k := 2) HQ.out
      have hqc := algP_q (k := 4) HQ.out
      have a1 : ((FloatKind.f64.format.order (qb (algP 1 l).1) 0 == some .eq) && (FloatKind.f64.format.order (qb (algP 1 l).2) 4607182418800017408 == some .eq)) = _ := mark_eq (algP 1 l).1 (algP 1 l).2 0 4 hqa (by decide) (by decide)
      have b1 : ((FloatKind.f64.format.order (qb (algP 2 l).1) 4607182418800017408 == some .eq) && (FloatKind.f64.format.order (qb (algP 2 l).2) 0 == some .eq)) = _ := mark_eq (algP 2 l).1 (algP 2 l).2 4 0 hqb (by decide) (by decide)
      have c1 : ((FloatKind.f64.format.order (qb (algP 4 l).1) 4602678819172646912 == some .eq) && (FloatKind.f64.format.order (qb (algP 4 l).2) 4602678819172646912 == some .eq)) = _ := mark_eq (algP 4 l).1 (algP 4 l).2 2 2 hqc (by decide) (by decide)
      change _ = (algP 1 l == ((0, 4) : Nat × Nat)) at a1
      change _ = (algP 2 l == ((4, 0) : Nat × Nat)) at b1
      change _ = (algP 4 l == ((2, 2) : Nat × Nat)) at c1
      rw [(over_deny H6.out).1] at a1
      rw [(over_deny H6.out).2] at b1
      rw [only_half] at c1
      have hw := hide (sure_want (l := l))
      have hF := List.length_filter_le appliesP l
      change (F l).length ≤ l.length at hF
      generalize hasP (4, 0) l = P at *
      generalize hasP (0, 4) l = D at *
      generalize l.all sureP = U at *
      generalize (F l).length = n at *
      clear hsl HQ H6 hlt
      generalize qb (algP 2 l).1 = x2 at hB b1
      generalize qb (algP 2 l).2 = y2 at hB b1
      generalize qb (algP 4 l).1 = x4 at hC c1
      generalize qb (algP 4 l).2 = y4 at hC c1
      have hA : Hid (Calls Try.prog 30 #[.int .i64 1, .slice A l.length cap] w1 fun e w' => e = .returned (.tuple #[.complex .f64 (qb (algP 1 l).1) (qb (algP 1 l).2), .int .i64 0]) ∧ w1 = w') := hA
      have hB : Hid (Calls Try.prog 30 #[.int .i64 2, .slice A l.length cap] w1 fun e w' => e = .returned (.tuple #[.complex .f64 x2 y2, .int .i64 0]) ∧ w1 = w') := hB
      have hC : Hid (Calls Try.prog 30 #[.int .i64 4, .slice A l.length cap] w1 fun e w' => e = .returned (.tuple #[.complex .f64 x4 y4, .int .i64 0]) ∧ w1 = w') := hC
      have o1 : (FloatKind.f64.format.order 4607182418800017408 4607182418800017408 == some .eq) = true := q_self 4 (by decide)
      have o2 : (FloatKind.f64.format.order 0 0 == some .eq) = true := q_self 0 (by decide)
      have o3 : (FloatKind.f64.format.order 4607182418800017408 0 == some .eq) = false := by decide +kernel
      have o4 : (FloatKind.f64.format.order 0 4607182418800017408 == some .eq) = false := by decide +kernel
      rcases U with _ | _
      · clear hw o1 o2 o3 o4
        generalize qb (algP 1 l).1 = x1 at hA a1
        generalize qb (algP 1 l).2 = y1 at hA a1
        rcases P with _ | _ <;> rcases D with _ | _
        all_goals
          go_wp2_with fail
          refine hA.out.mono ?_
          rintro e w' ⟨rfl, rfl⟩
          go_wp2_with fail
          refine hB.out.mono ?_
          rintro e w' ⟨rfl, rfl⟩
          go_wp2_with fail
          refine hC.out.mono ?_
          rintro e w' ⟨rfl, rfl⟩
          go_wp2_with fail
          refine (combineRuns_walk _).mono ?_
          rintro e w' ⟨rfl, hb3⟩
          go_wp2
          go_ret
          exact ⟨rfl, HB.out.trans (hb3.mono HB.out.size)⟩
      · have hw := hide (hw.out rfl)
        have z0 : qb 0 = 0 := rfl
        have z4 : qb 4 = 4607182418800017408 := rfl
        by_cases hn : 1 < n
        · have hn1 : decide (1 < n) = true := decide_eq_true hn
          rw [hn1, Bool.or_true] at c1
          have hn2 : decide ((1 : Int) < (n : Int)) = true := decide_eq_true (by omega)
          clear hn1
          rcases P with _ | _ <;> rcases D with _ | _
          all_goals
            rw [hw.out] at hA
            clear hw a1
            go_wp2_with fail
            refine hA.out.mono ?_
            rintro e w' ⟨rfl, rfl⟩
            go_wp2_with fail
            refine hB.out.mono ?_
            rintro e w' ⟨rfl, rfl⟩
            go_wp2_with fail
            refine hC.out.mono ?_
            rintro e w' ⟨rfl, rfl⟩
            go_wp2_with fail
            refine (combineRuns_walk _).mono ?_
            rintro e w' ⟨rfl, hb3⟩
            go_wp2
            go_ret
            exact ⟨rfl, HB.out.trans (hb3.mono HB.out.size)⟩
        · have hn1 : decide (1 < n) = false := decide_eq_false hn
          rw [hn1, Bool.or_false] at c1
          have hn2 : decide ((1 : Int) < (n : Int)) = false := decide_eq_false (by omega)
          clear hn1
          rcases P with _ | _ <;> rcases D with _ | _
          all_goals
            rw [hw.out] at hA
            clear hw a1
            go_wp2_with fail
            refine hA.out.mono ?_
            rintro e w' ⟨rfl, rfl⟩
            go_wp2_with fail
            refine hB.out.mono ?_
            rintro e w' ⟨rfl, rfl⟩
            go_wp2_with fail
            refine hC.out.mono ?_
            rintro e w' ⟨rfl, rfl⟩
            go_wp2_with fail
            refine (combineRuns_walk _).mono ?_
            rintro e w' ⟨rfl, hb3⟩
            go_wp2
            go_ret
            exact ⟨rfl, HB.out.trans (hb3.mono HB.out.size)⟩
end Go.Proofs.Ytlkikaeboeaadaa
