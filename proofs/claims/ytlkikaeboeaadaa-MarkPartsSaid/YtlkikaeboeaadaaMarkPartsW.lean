/-
  THE WALK OF bailifflaw4.MarkParts: it returns true; nothing turns.
-/
import Derived.Test.YtlkikaeboeaadaaMarkIndetW
namespace Go.Proofs.Ytlkikaeboeaadaa
open Go.RowKit
set_option linter.unusedVariables false

set_option maxHeartbeats 2000000 in
theorem parts_core (n m : Int) (a1 a2 b1 b2 j1 j2 o1 o2 v1 v2 : Nat) (Na Nb : ByteArray) (P1 P2 Q1 Q2 X Y Z : Bool) (w : World)
    (h1 : Hid (Ans 21 #[.int .i64 n] (.complex .f64 a1 a2)))
    (h2 : Hid (Ans 21 #[.int .i64 m] (.complex .f64 b1 b2)))
    (h3 : Hid (Ans 17 #[(.complex .f64 a1 a2), (.complex .f64 b1 b2)] (.complex .f64 j1 j2)))
    (h4 : Hid (Ans 19 #[(.complex .f64 j1 j2)] (.complex .f64 j2 j1)))
    (h5 : Hid (Ans 18 #[(.complex .f64 j2 j1)] (.complex .f64 o1 o2)))
    (h6 : Hid (Ans 19 #[(.complex .f64 o1 o2)] (.complex .f64 o2 o1)))
    (h7 : Hid (Ans 18 #[(.complex .f64 j1 j2)] (.complex .f64 v1 v2)))
    (h8 : Hid (Ans 20 #[(.complex .f64 a1 a2)] (.string Na)))
    (h9 : Hid (Ans 20 #[(.complex .f64 b1 b2)] (.string Nb)))
    (h10 : Hid (Ans 20 #[(.complex .f64 4611686018427387904 0)] (.string ⟨#[]⟩)))
    (p1 : (FloatKind.f64.format.order j1 a1 != some .eq) = P1)
    (p2 : (FloatKind.f64.format.order j1 b1 != some .eq) = P2)
    (q1 : (FloatKind.f64.format.order j2 a2 != some .eq) = Q1)
    (q2 : (FloatKind.f64.format.order j2 b2 != some .eq) = Q2)
    (hp : (P1 && P2) = false)
    (hq : (Q1 && Q2) = false)
    (l1 : (FloatKind.f64.format.order j1 a1 == some .lt) = false)
    (l2 : (FloatKind.f64.format.order j2 b2 == some .lt) = false)
    (x1 : ((FloatKind.f64.format.order o2 4607182418800017408 == some .eq) && (FloatKind.f64.format.order o1 0 == some .eq)) = X)
    (x2 : (FloatKind.f64.format.order j1 4607182418800017408 == some .eq) = X)
    (y1 : ((FloatKind.f64.format.order v1 0 == some .eq) && (FloatKind.f64.format.order v2 4607182418800017408 == some .eq)) = Y)
    (y2 : (FloatKind.f64.format.order j2 4607182418800017408 == some .eq) = Y)
    (z1 : ((FloatKind.f64.format.order a1 b1 == some .eq) && (FloatKind.f64.format.order a2 b2 == some .eq)) = Z)
    (z2 : (Na.toList == Nb.toList) = Z)
    : Calls Try.prog 4 #[.int .i64 n, .int .i64 m] w fun e w' => e = .returned (.bool true) ∧ w = w' := by
  rcases P1 with _ | _ <;> rcases P2 with _ | _ <;> rcases Q1 with _ | _ <;> rcases Q2 with _ | _ <;> (first | (exact absurd hp (by decide)) | (exact absurd hq (by decide)) | skip)
  all_goals
    clear hp hq
    go_enter Try.func4, Try.ntmps4
    go_wp2_with fail
    refine (h1.out w).mono ?_
    rintro e w' ⟨rfl, rfl⟩
    go_wp2_with fail
    refine (h2.out w).mono ?_
    rintro e w' ⟨rfl, rfl⟩
    go_wp2_with fail
    refine (h3.out w).mono ?_
    rintro e w' ⟨rfl, rfl⟩
    go_wp2_with fail
    refine (h4.out w).mono ?_
    rintro e w' ⟨rfl, rfl⟩
    go_wp2_with fail
    refine (h5.out w).mono ?_
    rintro e w' ⟨rfl, rfl⟩
    go_wp2_with fail
    refine (h6.out w).mono ?_
    rintro e w' ⟨rfl, rfl⟩
    go_wp2_with fail
    refine (h7.out w).mono ?_
    rintro e w' ⟨rfl, rfl⟩
    go_wp2_with fail
    refine (h8.out w).mono ?_
    rintro e w' ⟨rfl, rfl⟩
    go_wp2_with fail
    refine (h9.out w).mono ?_
    rintro e w' ⟨rfl, rfl⟩
    go_wp2_with fail
    refine (h10.out w).mono ?_
    rintro e w' ⟨rfl, rfl⟩
    go_wp2_with fail
    refine (markRuns_still w).mono ?_
    rintro e w' ⟨rfl, rfl⟩
    go_wp2
    go_ret
    exact ⟨rfl, rfl⟩

theorem q_ne (i j : Nat) (hi : i ≤ 4) (hj : j ≤ 4) : (FloatKind.f64.format.order (qb i) (qb j) != some .eq) = (i != j) := by
  unfold bne; rw [q_eq i j hi hj]
theorem q_lt (i j : Nat) (hi : i ≤ 4) (hj : j ≤ 4) : (FloatKind.f64.format.order (qb i) (qb j) == some .lt) = decide (i < j) := by
  rw [q_ord i j hi hj, Bool.eq_iff_iff, beq_iff_eq, Option.some.injEq, Nat.compare_eq_lt, decide_eq_true_eq]
theorem overP_swap (j : Nat × Nat) (h1 : j.1 = 0 ∨ j.1 = 2 ∨ j.1 = 4) (h2 : j.2 = 0 ∨ j.2 = 2 ∨ j.2 = 4) : ((swapP (overP (swapP j))) == ((4, 0) : Nat × Nat)) = (j.1 == 4) ∧ ((overP j) == ((0, 4) : Nat × Nat)) = (j.2 == 4) := by
  obtain ⟨p, d⟩ := j
  simp only at h1 h2
  rcases h1 with rfl | rfl | rfl <;> rcases h2 with rfl | rfl | rfl <;> decide
theorem sixP_half : ∀ k : Nat, ((sixP k).1 = 0 ∨ (sixP k).1 = 2 ∨ (sixP k).1 = 4) ∧ ((sixP k).2 = 0 ∨ (sixP k).2 = 2 ∨ (sixP k).2 = 4)
  | 0 | 1 | 2 | 3 | 4 => by decide
  | _ + 5 => ⟨.inr (.inl rfl), .inr (.inl rfl)⟩
theorem max_half (i j : Nat) (hi : i = 0 ∨ i = 2 ∨ i = 4) (hj : j = 0 ∨ j = 2 ∨ j = 4) : (max i j = 0 ∨ max i j = 2 ∨ max i j = 4) := by omega
theorem six_names : ∀ k l : Fin 6, ((nameP (sixP k.1)).toList == (nameP (sixP l.1)).toList) = (sixP k.1 == sixP l.1) := by decide +kernel
theorem name_two (w : World) : Calls Try.prog 20 #[.complex .f64 4611686018427387904 0] w fun e w' => e = .returned (.string ⟨#[]⟩) ∧ w = w' := by
  have e0 : (FloatKind.f64.format.order 4611686018427387904 0 == some .eq) = false := by decide +kernel
  have e1 : (FloatKind.f64.format.order 4611686018427387904 4607182418800017408 == some .eq) = false := by decide +kernel
  have e2 : (FloatKind.f64.format.order 4611686018427387904 4602678819172646912 == some .eq) = false := by decide +kernel
  go_enter Try.func20, Try.ntmps20
  go_wp2
  go_ret
  exact ⟨rfl, rfl⟩
theorem markParts_walk (n0 : Int) (n1 : Int) (w : World) (lo0 : -9223372036854775808 ≤ n0) (hi0 : n0 ≤ 9223372036854775807) (lo1 : -9223372036854775808 ≤ n1) (hi1 : n1 ≤ 9223372036854775807) :
    Calls Try.prog 4 #[.int .i64 n0, .int .i64 n1] w fun e w' => e = .returned (.bool true) ∧ Below w.heap.size w w' := by
  obtain ⟨k, hk, h6⟩ := six_all n0
  obtain ⟨l, hl, h7⟩ := six_all n1
  have hn := six_names ⟨k, by omega⟩ ⟨l, by omega⟩
  have hq := sixP_q k
  have hr := sixP_q l
  have hf := sixP_half k
  have hg := sixP_half l
  generalize sixP k = a at h6 hn hq hf
  generalize sixP l = b at h7 hn hr hg
  have hj := hq.join hr
  have ho := overP_swap (joinP a b) (max_half _ _ hf.1 hg.1) (max_half _ _ hf.2 hg.2)
  have hv := overP_q (joinP a b)
  have hu := overP_q (swapP (joinP a b))
  have hz : ((FloatKind.f64.format.order (qb a.1) (qb b.1) == some .eq) && (FloatKind.f64.format.order (qb a.2) (qb b.2) == some .eq)) = (a == b) := mark_eq a.1 a.2 b.1 b.2 hq hr.1 hr.2
  have hx := (mark_eq (swapP (overP (swapP (joinP a b)))).1 (swapP (overP (swapP (joinP a b)))).2 4 0 hu.swap (by decide) (by decide)).trans ho.1
  have hy := (mark_eq (overP (joinP a b)).1 (overP (joinP a b)).2 0 4 hv (by decide) (by decide)).trans ho.2
  have k1 := join_any a b hq hr
  have k2 := turn_any (joinP a b)
  have k3 := over_any _ hj.swap
  have k4 := turn_any (overP (swapP (joinP a b)))
  have k5 := over_any _ hj
  have k6 := name_any a hq
  have k7 := name_any b hr
  refine still_below (parts_core n0 n1 (qb a.1) (qb a.2) (qb b.1) (qb b.2) (qb (joinP a b).1) (qb (joinP a b).2) (qb (overP (swapP (joinP a b))).1) (qb (overP (swapP (joinP a b))).2) (qb (overP (joinP a b)).1) (qb (overP (joinP a b)).2) (nameP a) (nameP b) _ _ _ _ ((joinP a b).1 == 4) ((joinP a b).2 == 4) (a == b) w h6 h7 k1 k2 k3 k4 k5 k6 k7 name_two
    (q_ne _ _ hj.1 hq.1) (q_ne _ _ hj.1 hr.1) (q_ne _ _ hj.2 hq.2) (q_ne _ _ hj.2 hr.2) ?_ ?_ ((q_lt _ _ hj.1 hq.1).trans (decide_eq_false ?_)) ((q_lt _ _ hj.2 hr.2).trans (decide_eq_false ?_))
    hx (q_eq _ 4 hj.1 (by decide)) hy (q_eq _ 4 hj.2 (by decide)) hz hn)
  · show ((max a.1 b.1 != a.1) && (max a.1 b.1 != b.1)) = false
    rcases Nat.le_total a.1 b.1 with h | h
    · rw [Nat.max_eq_right h]; simp
    · rw [Nat.max_eq_left h]; simp
  · show ((max a.2 b.2 != a.2) && (max a.2 b.2 != b.2)) = false
    rcases Nat.le_total a.2 b.2 with h | h
    · rw [Nat.max_eq_right h]; simp
    · rw [Nat.max_eq_left h]; simp
  · show ¬ max a.1 b.1 < a.1; omega
  · show ¬ max a.2 b.2 < b.2; omega
end Go.Proofs.Ytlkikaeboeaadaa
