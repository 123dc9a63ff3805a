/-
  THE WALK OF bailifflaw5.CombineSteps: it returns true; only new memory is laid.
-/
import Derived.Test.YtlkikaeboeaadaaCombNestedW
import Derived.Test.YtlkikaeboeaadaaCombL2
namespace Go.Proofs.Ytlkikaeboeaadaa
open Go.RowKit
set_option linter.unusedVariables false

theorem sure_e (m : Nat × Nat) (E0 E1 E2 : Bool) (h0 : (m == (0, 0)) = E0) (h1 : (m == (4, 0)) = E1) (h2 : (m == (0, 4)) = E2) : sureP m = (E0 || E1 || E2) := by unfold sureP; rw [h0, h1, h2]
set_option maxHeartbeats 8000000 in
theorem combineSteps_walk (n0 : Int) (a1 : Option Addr) (cap1 : Nat) (l1 : List Int) (w : World) (lo0 : -9223372036854775808 ≤ n0) (hi0 : n0 ≤ 9223372036854775807) (hl1 : l1.length ≤ cap1) (hm1 : cap1 ≤ maxLen) (s1 : Sl w w.heap.size a1 (vints .i64 l1)) :
    Calls Try.prog 11 #[.int .i64 n0, .slice a1 l1.length cap1] w fun e w' => e = .returned (.bool true) ∧ Below w.heap.size w w' := by
  obtain ⟨j, hje⟩ : ∃ K : Nat, within n0 0 5 = (K : Int) := ⟨_, (Int.toNat_of_nonneg (within_lo n0 0 5 (by omega))).symm⟩
  have hj : j ≤ 5 := by have := within_hi n0 0 5 (by omega); omega
  have hW := within_any n0 0 5 w (by omega) (by omega) (by omega)
  rw [hje] at hW
  have HW := hide hW
  clear hW hje
  go_enter Try.func11, Try.ntmps11
  go_wp2_with fail
  refine HW.out.mono ?_
  rintro e w' ⟨rfl, rfl⟩
  go_wp2_with fail
  refine (row_any a1 cap1 _ l1 rfl w hl1 hm1 s1).mono ?_
  rintro e w1 ⟨v, rfl, hown, hb1⟩
  have hlen := rowP_length l1
  have HQ := hide (rowP_q l1)
  have H6 := hide (rowP_all6 l1)
  generalize rowP l1 = l at hown hlen HQ H6
  have hl20 : l.length ≤ 20 := by omega
  clear hlen s1 HW
  obtain ⟨A, cap, rfl, hnc, hsl, _⟩ := own_slice hown
  have HB := hide hb1
  clear hown hb1
  go_wp2
  go_loop [7, 8, 21] (fun v u i => ∃ k : Nat, k ≤ l.length ∧ i = .int .i64 k ∧ u = .bool (!(l.take k).all sureP) ∧ v = .complex .f64 (qb ((l.take k).foldl (stepP (j + 1)) (0, 0)).1) (qb ((l.take k).foldl (stepP (j + 1)) (0, 0)).2)) (fun _ _ i => l.length - (intOf i).toNat)
  case atStart => exact ⟨0, Nat.zero_le _, rfl, rfl, rfl⟩
  case round =>
    obtain ⟨k, hk, rfl, rfl, rfl⟩ := hrel
    by_cases hlt : k < l.length
    · obtain ⟨b, off, rfl, _, hcell⟩ := hsl.mark hlt
      have hJq := foldl_q (fun _ _ => stepP_q (j + 1)) (l.take k) (0, 0) QP.zero (fun x hx => HQ.out x (List.mem_of_mem_take hx))
      have hB := step_any (j + 1) (by omega) (by omega) _ l[k] hJq (HQ.out.at hlt) w1
      rw [← take_fold (stepP (j + 1)) (0, 0) l k hlt, show (((j + 1 : Nat) : Int)) = 1 + (j : Int) by omega] at hB
      have HST := hide hB
      have hU := all_take sureP l k hlt
      have hqm := HQ.out.at hlt
      have e0 := (mark_eq l[k].1 l[k].2 0 0 hqm (by decide) (by decide)).trans (show (l[k] == ((0, 0) : Nat × Nat)) = _ from rfl)
      have e1 := (mark_eq l[k].1 l[k].2 4 0 hqm (by decide) (by decide)).trans (show (l[k] == ((4, 0) : Nat × Nat)) = _ from rfl)
      have e2 := (mark_eq l[k].1 l[k].2 0 4 hqm (by decide) (by decide)).trans (show (l[k] == ((0, 4) : Nat × Nat)) = _ from rfl)
      have e0 : ((FloatKind.f64.format.order (qb l[k].1) 0 == some .eq) && (FloatKind.f64.format.order (qb l[k].2) 0 == some .eq)) = _ := e0
      have e1 : ((FloatKind.f64.format.order (qb l[k].1) 4607182418800017408 == some .eq) && (FloatKind.f64.format.order (qb l[k].2) 0 == some .eq)) = _ := e1
      have e2 : ((FloatKind.f64.format.order (qb l[k].1) 0 == some .eq) && (FloatKind.f64.format.order (qb l[k].2) 4607182418800017408 == some .eq)) = _ := e2
      rw [sure_e l[k] _ _ _ rfl rfl rfl] at hU
      generalize (l.take k).all sureP = U at hU ⊢
      generalize (l[k] == ((0, 0) : Nat × Nat)) = E0 at hU e0
      generalize (l[k] == ((4, 0) : Nat × Nat)) = E1 at hU e1
      generalize (l[k] == ((0, 4) : Nat × Nat)) = E2 at hU e2
      have HU := hide hU
      clear hsl hJq hB hU hqm
      generalize (l.take k).foldl (stepP (j + 1)) (0, 0) = J at HST ⊢
      generalize qb J.1 = j1 at HST ⊢
      generalize qb J.2 = j2 at HST ⊢
      generalize hJ' : (l.take (k + 1)).foldl (stepP (j + 1)) (0, 0) = J' at HST
      have HJ := hide hJ'
      clear hJ'
      generalize qb l[k].1 = x at hcell HST e0 e1 e2
      generalize qb l[k].2 = y at hcell HST e0 e1 e2
      rcases U with _ | _ <;> rcases E0 with _ | _ <;> rcases E1 with _ | _ <;> rcases E2 with _ | _
      all_goals
        go_wp2_with fail
        refine HST.out.mono ?_
        rintro e w' ⟨rfl, rfl⟩
        go_wp2
        go_round
        case rel => exact ⟨k + 1, by omega, by go_num, by rw [HU.out]; rfl, by rw [HJ.out]⟩
        case measure => simp [intOf]; omega
    · obtain rfl : k = l.length := by omega
      rw [List.take_length]
      have H1 := hide (alg_any j hj A cap _ l rfl w1 w1.heap.size (by omega) HQ.out H6.out hsl)
      clear hsl hlt hk
      obtain rfl | rfl | rfl | rfl | rfl | rfl : j = 0 ∨ j = 1 ∨ j = 2 ∨ j = 3 ∨ j = 4 ∨ j = 5 := by omega
      · rw [show l.foldl (stepP (0 + 1)) (0, 0) = joinsP l from rfl]
        rw [show algP (0 + 1) l = overP (joinsP l) from rfl] at H1
        have hO := hide (over_any (joinsP l) (joinsP_q HQ.out) w1)
        have f1 := q_self (overP (joinsP l)).1 (overP_q _).1
        have f2 := q_self (overP (joinsP l)).2 (overP_q _).2
        unfold mk at hO
        clear HQ H6
        generalize l.all sureP = U
        generalize qb (overP (joinsP l)).1 = x1 at *
        generalize qb (overP (joinsP l)).2 = x2 at *
        generalize qb (joinsP l).1 = j1 at *
        generalize qb (joinsP l).2 = j2 at *
        go_wp2_with fail
        refine H1.out.mono ?_
        rintro e w' ⟨rfl, rfl⟩
        go_wp2_with fail
        refine hO.out.mono ?_
        rintro e w' ⟨rfl, rfl⟩
        go_wp2_with fail
        refine (combineRuns_walk _).mono ?_
        rintro e w' ⟨rfl, hb3⟩
        go_wp2
        go_ret
        exact ⟨rfl, HB.out.trans (hb3.mono HB.out.size)⟩
      · rw [show l.foldl (stepP (1 + 1)) (0, 0) = joinsP l from rfl]
        rw [show algP (1 + 1) l = swapP (overP (swapP (joinsP l))) from rfl] at H1
        have hT := hide (turn_any (joinsP l) w1)
        have hO := hide (over_any (swapP (joinsP l)) (joinsP_q HQ.out).swap w1)
        have hS := hide (turn_any (overP (swapP (joinsP l))) w1)
        have f1 := q_self (swapP (overP (swapP (joinsP l)))).1 (overP_q _).swap.1
        have f2 := q_self (swapP (overP (swapP (joinsP l)))).2 (overP_q _).swap.2
        unfold mk at hO hT hS
        clear HQ H6
        generalize l.all sureP = U
        generalize qb (swapP (overP (swapP (joinsP l)))).1 = x1 at *
        generalize qb (swapP (overP (swapP (joinsP l)))).2 = x2 at *
        generalize qb (overP (swapP (joinsP l))).1 = o1 at *
        generalize qb (overP (swapP (joinsP l))).2 = o2 at *
        generalize qb (swapP (joinsP l)).1 = s1 at *
        generalize qb (swapP (joinsP l)).2 = s2 at *
        generalize qb (joinsP l).1 = j1 at *
        generalize qb (joinsP l).2 = j2 at *
        go_wp2_with fail
        refine H1.out.mono ?_
        rintro e w' ⟨rfl, rfl⟩
        go_wp2_with fail
        refine hT.out.mono ?_
        rintro e w' ⟨rfl, rfl⟩
        go_wp2_with fail
        refine hO.out.mono ?_
        rintro e w' ⟨rfl, rfl⟩
        go_wp2_with fail
        refine hS.out.mono ?_
        rintro e w' ⟨rfl, rfl⟩
        go_wp2_with fail
        refine (combineRuns_walk _).mono ?_
        rintro e w' ⟨rfl, hb3⟩
        go_wp2
        go_ret
        exact ⟨rfl, HB.out.trans (hb3.mono HB.out.size)⟩
      · rw [show l.foldl (stepP (2 + 1)) (0, 0) = firstP l from fold3_first l]
        rw [show algP (2 + 1) l = firstP l from rfl] at H1
        have f1 := q_self (firstP l).1 (firstP_q HQ.out).1
        have f2 := q_self (firstP l).2 (firstP_q HQ.out).2
        clear HQ H6
        generalize l.all sureP = U
        generalize qb (firstP l).1 = x1 at *
        generalize qb (firstP l).2 = x2 at *
        go_wp2_with fail
        refine H1.out.mono ?_
        rintro e w' ⟨rfl, rfl⟩
        go_wp2_with fail
        refine (combineRuns_walk _).mono ?_
        rintro e w' ⟨rfl, hb3⟩
        go_wp2
        go_ret
        exact ⟨rfl, HB.out.trans (hb3.mono HB.out.size)⟩
      · cases hU : l.all sureP
        · rw [show algP (3 + 1) l = (2, 2) by show onlyP l = _; unfold onlyP; rw [hU]; rfl] at H1
          have f1 := q_self 2 (by decide)
          have H1 : Hid (Calls Try.prog 30 #[.int .i64 (1 + ((3 : Nat) : Int)), .slice A l.length cap] w1 fun e w' => e = .returned (.tuple #[.complex .f64 4602678819172646912 4602678819172646912, .int .i64 0]) ∧ w1 = w') := H1
          have f1 : (FloatKind.f64.format.order 4602678819172646912 4602678819172646912 == some .eq) = true := f1
          clear HQ H6 hU
          generalize qb (l.foldl (stepP (3 + 1)) (0, 0)).1 = j1
          generalize qb (l.foldl (stepP (3 + 1)) (0, 0)).2 = j2
          go_wp2_with fail
          refine H1.out.mono ?_
          rintro e w' ⟨rfl, rfl⟩
          go_wp2_with fail
          refine (combineRuns_walk _).mono ?_
          rintro e w' ⟨rfl, hb3⟩
          go_wp2
          go_ret
          exact ⟨rfl, HB.out.trans (hb3.mono HB.out.size)⟩
        · rw [show algP (3 + 1) l = l.foldl (stepP (3 + 1)) (0, 0) by show onlyP l = _; unfold onlyP; rw [hU]; rfl] at H1
          have hJq := foldl_q (fun _ _ => stepP_q (3 + 1)) l (0, 0) QP.zero HQ.out
          have f1 := q_self (l.foldl (stepP (3 + 1)) (0, 0)).1 hJq.1
          have f2 := q_self (l.foldl (stepP (3 + 1)) (0, 0)).2 hJq.2
          clear HQ H6 hU hJq
          generalize qb (l.foldl (stepP (3 + 1)) (0, 0)).1 = j1 at *
          generalize qb (l.foldl (stepP (3 + 1)) (0, 0)).2 = j2 at *
          go_wp2_with fail
          refine H1.out.mono ?_
          rintro e w' ⟨rfl, rfl⟩
          go_wp2_with fail
          refine (combineRuns_walk _).mono ?_
          rintro e w' ⟨rfl, hb3⟩
          go_wp2
          go_ret
          exact ⟨rfl, HB.out.trans (hb3.mono HB.out.size)⟩
      · rw [show l.foldl (stepP (4 + 1)) (0, 0) = joinsP l from rfl]
        have hc := q_eq (joinsP l).1 4 (joinsP_q HQ.out).1 (by decide)
        rw [(join_has H6.out).1] at hc
        have f1 : (FloatKind.f64.format.order 4607182418800017408 4607182418800017408 == some .eq) = true := q_self 4 (by decide)
        have f0 : (FloatKind.f64.format.order 0 0 == some .eq) = true := q_self 0 (by decide)
        have hc : (FloatKind.f64.format.order (qb (joinsP l).1) 4607182418800017408 == some .eq) = _ := hc
        cases hU : hasP (4, 0) l
        · rw [hU] at hc
          rw [show algP (4 + 1) l = (0, 4) by show unlessP l (0, 4) (4, 0) = _; unfold unlessP; rw [hU]; rfl] at H1
          have H1 : Hid (Calls Try.prog 30 #[.int .i64 (1 + ((4 : Nat) : Int)), .slice A l.length cap] w1 fun e w' => e = .returned (.tuple #[.complex .f64 0 4607182418800017408, .int .i64 0]) ∧ w1 = w') := H1
          clear HQ H6 hU
          generalize l.all sureP = U
          generalize qb (joinsP l).1 = j1 at *
          generalize qb (joinsP l).2 = j2 at *
          go_wp2_with fail
          refine H1.out.mono ?_
          rintro e w' ⟨rfl, rfl⟩
          go_wp2_with fail
          refine (combineRuns_walk _).mono ?_
          rintro e w' ⟨rfl, hb3⟩
          go_wp2
          go_ret
          exact ⟨rfl, HB.out.trans (hb3.mono HB.out.size)⟩
        · rw [hU] at hc
          rw [show algP (4 + 1) l = (4, 0) by show unlessP l (0, 4) (4, 0) = _; unfold unlessP; rw [hU]; rfl] at H1
          have H1 : Hid (Calls Try.prog 30 #[.int .i64 (1 + ((4 : Nat) : Int)), .slice A l.length cap] w1 fun e w' => e = .returned (.tuple #[.complex .f64 4607182418800017408 0, .int .i64 0]) ∧ w1 = w') := H1
          clear HQ H6 hU
          generalize l.all sureP = U
          generalize qb (joinsP l).1 = j1 at *
          generalize qb (joinsP l).2 = j2 at *
          go_wp2_with fail
          refine H1.out.mono ?_
          rintro e w' ⟨rfl, rfl⟩
          go_wp2_with fail
          refine (combineRuns_walk _).mono ?_
          rintro e w' ⟨rfl, hb3⟩
          go_wp2
          go_ret
          exact ⟨rfl, HB.out.trans (hb3.mono HB.out.size)⟩
      · rw [show l.foldl (stepP (5 + 1)) (0, 0) = joinsP l from rfl]
        have hc := q_eq (joinsP l).2 4 (joinsP_q HQ.out).2 (by decide)
        rw [(join_has H6.out).2] at hc
        have f1 : (FloatKind.f64.format.order 4607182418800017408 4607182418800017408 == some .eq) = true := q_self 4 (by decide)
        have f0 : (FloatKind.f64.format.order 0 0 == some .eq) = true := q_self 0 (by decide)
        have hc : (FloatKind.f64.format.order (qb (joinsP l).2) 4607182418800017408 == some .eq) = _ := hc
        cases hU : hasP (0, 4) l
        · rw [hU] at hc
          rw [show algP (5 + 1) l = (4, 0) by show unlessP l (4, 0) (0, 4) = _; unfold unlessP; rw [hU]; rfl] at H1
          have H1 : Hid (Calls Try.prog 30 #[.int .i64 (1 + ((5 : Nat) : Int)), .slice A l.length cap] w1 fun e w' => e = .returned (.tuple #[.complex .f64 4607182418800017408 0, .int .i64 0]) ∧ w1 = w') := H1
          clear HQ H6 hU
          generalize l.all sureP = U
          generalize qb (joinsP l).1 = j1 at *
          generalize qb (joinsP l).2 = j2 at *
          go_wp2_with fail
          refine H1.out.mono ?_
          rintro e w' ⟨rfl, rfl⟩
          go_wp2_with fail
          refine (combineRuns_walk _).mono ?_
          rintro e w' ⟨rfl, hb3⟩
          go_wp2
          go_ret
          exact ⟨rfl, HB.out.trans (hb3.mono HB.out.size)⟩
        · rw [hU] at hc
          rw [show algP (5 + 1) l = (0, 4) by show unlessP l (4, 0) (0, 4) = _; unfold unlessP; rw [hU]; rfl] at H1
          have H1 : Hid (Calls Try.prog 30 #[.int .i64 (1 + ((5 : Nat) : Int)), .slice A l.length cap] w1 fun e w' => e = .returned (.tuple #[.complex .f64 0 4607182418800017408, .int .i64 0]) ∧ w1 = w') := H1
          clear HQ H6 hU
          generalize l.all sureP = U
          generalize qb (joinsP l).1 = j1 at *
          generalize qb (joinsP l).2 = j2 at *
          go_wp2_with fail
          refine H1.out.mono ?_
          rintro e w' ⟨rfl, rfl⟩
          go_wp2_with fail
          refine (combineRuns_walk _).mono ?_
          rintro e w' ⟨rfl, hb3⟩
          go_wp2
          go_ret
          exact ⟨rfl, HB.out.trans (hb3.mono HB.out.size)⟩
end Go.Proofs.Ytlkikaeboeaadaa
