/-
  CONTRACTS OF bailifflaw4.part AND some.
-/
import Derived.Test.YtlkikaeboeaadaaMarkTellsW
namespace Go.Proofs.Ytlkikaeboeaadaa
open Go.RowKit
set_option linter.unusedVariables false
theorem part_all (n : Int) : ∃ k : Nat, k ≤ 4 ∧ ∀ w : World, Calls Try.prog 41 #[.int .i64 n] w fun e w' => e = .returned (.float .f64 (qb k)) ∧ w = w' := by
  obtain ⟨K, hKe⟩ : ∃ K : Nat, within n 0 4 = (K : Int) := ⟨_, (Int.toNat_of_nonneg (within_lo n 0 4 (by omega))).symm⟩
  have hK : K ≤ 4 := by have := within_hi n 0 4 (by omega); omega
  refine ⟨K, hK, fun w => ?_⟩
  have hW := within_any n 0 4 w (by omega) (by omega) (by omega)
  rw [hKe] at hW
  have HW := hide hW
  clear hW hKe
  have q0 : ∀ w, (binOp .quo 29 (.float .f64 (floatOfInt .f64 0)) (.float .f64 4616189618054758400)).run Try.prog w = .ok (.float .f64 0) w := fun _ => by kernel_rfl
  have q1 : ∀ w, (binOp .quo 29 (.float .f64 (floatOfInt .f64 1)) (.float .f64 4616189618054758400)).run Try.prog w = .ok (.float .f64 4598175219545276416) w := fun _ => by kernel_rfl
  have q2 : ∀ w, (binOp .quo 29 (.float .f64 (floatOfInt .f64 2)) (.float .f64 4616189618054758400)).run Try.prog w = .ok (.float .f64 4602678819172646912) w := fun _ => by kernel_rfl
  have q3 : ∀ w, (binOp .quo 29 (.float .f64 (floatOfInt .f64 3)) (.float .f64 4616189618054758400)).run Try.prog w = .ok (.float .f64 4604930618986332160) w := fun _ => by kernel_rfl
  have q4 : ∀ w, (binOp .quo 29 (.float .f64 (floatOfInt .f64 4)) (.float .f64 4616189618054758400)).run Try.prog w = .ok (.float .f64 4607182418800017408) w := fun _ => by kernel_rfl
  go_enter Try.func41, Try.ntmps41
  go_wp2_with fail
  refine HW.out.mono ?_
  rintro e w' ⟨rfl, rfl⟩
  clear HW
  obtain rfl | rfl | rfl | rfl | rfl : K = 0 ∨ K = 1 ∨ K = 2 ∨ K = 3 ∨ K = 4 := by omega
  all_goals
    go_wp2
    go_ret
    exact ⟨rfl, rfl⟩
theorem some_all (n m : Int) : ∃ k : Nat × Nat, QP k ∧ ∀ w : World, Calls Try.prog 23 #[.int .i64 n, .int .i64 m] w fun e w' => e = .returned (mk k.1 k.2) ∧ w = w' := by
  obtain ⟨k, hk, h1⟩ := part_all n
  obtain ⟨l, hl, h2⟩ := part_all m
  refine ⟨(k, l), ⟨hk, hl⟩, fun w => ?_⟩
  have H1 := hide (h1 w)
  have H2 := hide (h2 w)
  clear h1 h2
  unfold mk
  simp only []
  generalize qb k = a at H1 ⊢
  generalize qb l = b at H2 ⊢
  go_enter Try.func23, Try.ntmps23
  go_wp2_with fail
  refine H1.out.mono ?_
  rintro e w' ⟨rfl, rfl⟩
  go_wp2_with fail
  refine H2.out.mono ?_
  rintro e w' ⟨rfl, rfl⟩
  go_wp2
  go_ret
  exact ⟨rfl, rfl⟩
theorem nameP_bif (m : Nat × Nat) : nameP m = (bif m == (0, 0) then ⟨#[78, 111, 116, 65, 112, 112, 108, 105, 99, 97, 98, 108, 101]⟩ else (bif m == (4, 0) then ⟨#[80, 101, 114, 109, 105, 116]⟩ else (bif m == (0, 4) then ⟨#[68, 101, 110, 121]⟩ else (bif m == (2, 0) then ⟨#[73, 110, 100, 101, 116, 101, 114, 109, 105, 110, 97, 116, 101, 123, 80, 125]⟩ else (bif m == (0, 2) then ⟨#[73, 110, 100, 101, 116, 101, 114, 109, 105, 110, 97, 116, 101, 123, 68, 125]⟩ else (bif m == (2, 2) then ⟨#[73, 110, 100, 101, 116, 101, 114, 109, 105, 110, 97, 116, 101, 123, 68, 80, 125]⟩ else ⟨#[]⟩)))))) := by
  unfold nameP
  by_cases h0 : m = (0, 0)
  · rw [if_pos h0, beq_iff_eq.2 h0]; rfl
  rw [if_neg h0, beq_eq_false_iff_ne.2 h0]
  by_cases h1 : m = (4, 0)
  · rw [if_pos h1, beq_iff_eq.2 h1]; rfl
  rw [if_neg h1, beq_eq_false_iff_ne.2 h1]
  by_cases h2 : m = (0, 4)
  · rw [if_pos h2, beq_iff_eq.2 h2]; rfl
  rw [if_neg h2, beq_eq_false_iff_ne.2 h2]
  by_cases h3 : m = (2, 0)
  · rw [if_pos h3, beq_iff_eq.2 h3]; rfl
  rw [if_neg h3, beq_eq_false_iff_ne.2 h3]
  by_cases h4 : m = (0, 2)
  · rw [if_pos h4, beq_iff_eq.2 h4]; rfl
  rw [if_neg h4, beq_eq_false_iff_ne.2 h4]
  by_cases h5 : m = (2, 2)
  · rw [if_pos h5, beq_iff_eq.2 h5]; rfl
  rw [if_neg h5, beq_eq_false_iff_ne.2 h5]; rfl
theorem markTells_walk (n0 : Int) (n1 : Int) (n2 : Int) (n3 : Int) (w : World) (lo0 : -9223372036854775808 ≤ n0) (hi0 : n0 ≤ 9223372036854775807) (lo1 : -9223372036854775808 ≤ n1) (hi1 : n1 ≤ 9223372036854775807) (lo2 : -9223372036854775808 ≤ n2) (hi2 : n2 ≤ 9223372036854775807) (lo3 : -9223372036854775808 ≤ n3) (hi3 : n3 ≤ 9223372036854775807) :
    Calls Try.prog 7 #[.int .i64 n0, .int .i64 n1, .int .i64 n2, .int .i64 n3] w fun e w' => e = .returned (.bool true) ∧ Below w.heap.size w w' := by
  obtain ⟨⟨a, a'⟩, hq, h1⟩ := some_all n0 n1
  obtain ⟨⟨b, b'⟩, hr, h2⟩ := some_all n2 n3
  have k1 := rightm_any (a, a') hq
  have k2 := refRight_any (a, a') hq
  have k3 := name_any (a, a') hq
  have k4 := indet_any (a, a') hq
  have k5 := refIndet_any (a, a') hq
  have k6 := turn_any (a, a')
  have k7 := refTurn_any (a, a')
  have k8 := join_any (a, a') (b, b') hq hr
  have k9 := refJoin_any (a, a') (b, b') hq hr
  have ka := over_any (a, a') hq
  have kb := refOver_any (a, a') hq
  have hi := indetP_q hq
  have hj := hq.join hr
  have ho := overP_q (a, a')
  exact still_below (tells_core n0 n1 n2 n3 (qb a) (qb a') (qb b) (qb b') _ _ _ _ _ _ _ _ (rightP (a, a')) _ _ _ _ _ _ (nameP (a, a')) w h1 h2 k1 k2 k3 k4 k5 k6 k7 k8 k9 ka kb
    (mark_eq a a' 0 0 hq (by decide) (by decide)) (mark_eq a a' 4 0 hq (by decide) (by decide)) (mark_eq a a' 0 4 hq (by decide) (by decide)) (mark_eq a a' 2 0 hq (by decide) (by decide)) (mark_eq a a' 0 2 hq (by decide) (by decide)) (mark_eq a a' 2 2 hq (by decide) (by decide))
    (q_self _ hi.1) (q_self _ hi.2) (q_self _ hq.swap.1) (q_self _ hq.swap.2) (q_self _ hj.1) (q_self _ hj.2) (q_self _ ho.1) (q_self _ ho.2) (nameP_bif (a, a')))
end Go.Proofs.Ytlkikaeboeaadaa
