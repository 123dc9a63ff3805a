/-
  THE WALK OF bailifflaw4.MarkOver: it returns true; nothing turns.
-/
import Derived.Test.YtlkikaeboeaadaaMarkIndetW
namespace Go.Proofs.Ytlkikaeboeaadaa
open Go.RowKit
set_option linter.unusedVariables false

set_option maxHeartbeats 2000000 in
theorem over_core (n m : Int) (a1 a2 b1 b2 j1 j2 o1 o2 : Nat) (X1 X2 Y1 Y2 : Bool) (w : World)
    (h1 : Hid (Ans 21 #[.int .i64 n] (.complex .f64 a1 a2)))
    (h2 : Hid (Ans 21 #[.int .i64 m] (.complex .f64 b1 b2)))
    (h3 : Hid (Ans 17 #[(.complex .f64 a1 a2), (.complex .f64 b1 b2)] (.complex .f64 j1 j2)))
    (h4 : Hid (Ans 18 #[(.complex .f64 j1 j2)] (.complex .f64 o1 o2)))
    (h5 : Hid (Ans 18 #[(.complex .f64 a1 a2)] (.complex .f64 a1 a2)))
    (h6 : Hid (Ans 22 #[(.complex .f64 o1 o2)] (.bool true)))
    (h7 : Hid (Ans 17 #[(.complex .f64 j1 j2), (.complex .f64 a1 a2)] (.complex .f64 j1 j2)))
    (s1 : (FloatKind.f64.format.order a1 a1 == some .eq) = true)
    (s2 : (FloatKind.f64.format.order a2 a2 == some .eq) = true)
    (s3 : (FloatKind.f64.format.order o1 o1 == some .eq) = true)
    (s4 : (FloatKind.f64.format.order o2 o2 == some .eq) = true)
    (x0 : ((FloatKind.f64.format.order o1 0 == some .eq) && (FloatKind.f64.format.order o2 4607182418800017408 == some .eq)) = (X1 || X2))
    (x1 : ((FloatKind.f64.format.order a1 0 == some .eq) && (FloatKind.f64.format.order a2 4607182418800017408 == some .eq)) = X1)
    (x2 : ((FloatKind.f64.format.order b1 0 == some .eq) && (FloatKind.f64.format.order b2 4607182418800017408 == some .eq)) = X2)
    (y0 : ((FloatKind.f64.format.order o1 0 == some .eq) && (FloatKind.f64.format.order o2 0 == some .eq)) = (Y1 && Y2))
    (y1 : ((FloatKind.f64.format.order a1 0 == some .eq) && (FloatKind.f64.format.order a2 0 == some .eq)) = Y1)
    (y2 : ((FloatKind.f64.format.order b1 0 == some .eq) && (FloatKind.f64.format.order b2 0 == some .eq)) = Y2)
    : Calls Try.prog 6 #[.int .i64 n, .int .i64 m] w fun e w' => e = .returned (.bool true) ∧ w = w' := by
  rcases X1 with _ | _ <;> rcases X2 with _ | _ <;> rcases Y1 with _ | _ <;> rcases Y2 with _ | _ <;> simp only [Bool.or_self, Bool.or_true, Bool.or_false, Bool.and_self, Bool.and_true, Bool.and_false] at x0 y0
  all_goals
    go_enter Try.func6, Try.ntmps6
    go_wp2_with fail
    refine (h1.out w).mono ?_
    rintro e w' ⟨rfl, rfl⟩
    go_wp2_with fail
    refine (h2.out w).mono ?_
    rintro e w' ⟨rfl, rfl⟩
    go_wp2_with fail
    refine (h3.out w).mono ?_
    rintro e w' ⟨rfl, rfl⟩
    go_wp2_with fail
    refine (h4.out w).mono ?_
    rintro e w' ⟨rfl, rfl⟩
    go_wp2_with fail
    refine (h5.out w).mono ?_
    rintro e w' ⟨rfl, rfl⟩
    go_wp2_with fail
    refine (h6.out w).mono ?_
    rintro e w' ⟨rfl, rfl⟩
    go_wp2_with fail
    refine (h7.out w).mono ?_
    rintro e w' ⟨rfl, rfl⟩
    go_wp2_with fail
    refine (h4.out w).mono ?_
    rintro e w' ⟨rfl, rfl⟩
    go_wp2_with fail
    refine (markRuns_still w).mono ?_
    rintro e w' ⟨rfl, rfl⟩
    go_wp2
    go_ret
    exact ⟨rfl, rfl⟩

theorem six_over : ∀ k l : Fin 6, overP (sixP k.1) = sixP k.1 ∧ (!(nameP (overP (joinP (sixP k.1) (sixP l.1)))).toList.isEmpty) = true ∧ joinP (joinP (sixP k.1) (sixP l.1)) (sixP k.1) = joinP (sixP k.1) (sixP l.1) ∧
    (overP (joinP (sixP k.1) (sixP l.1)) == ((0, 4) : Nat × Nat)) = ((sixP k.1 == (0, 4)) || (sixP l.1 == (0, 4))) ∧ (overP (joinP (sixP k.1) (sixP l.1)) == ((0, 0) : Nat × Nat)) = ((sixP k.1 == (0, 0)) && (sixP l.1 == (0, 0))) := by decide +kernel
theorem markOver_walk (n0 : Int) (n1 : Int) (w : World) (lo0 : -9223372036854775808 ≤ n0) (hi0 : n0 ≤ 9223372036854775807) (lo1 : -9223372036854775808 ≤ n1) (hi1 : n1 ≤ 9223372036854775807) :
    Calls Try.prog 6 #[.int .i64 n0, .int .i64 n1] w fun e w' => e = .returned (.bool true) ∧ Below w.heap.size w w' := by
  obtain ⟨k, hk, h6⟩ := six_all n0
  obtain ⟨l, hl, h7⟩ := six_all n1
  obtain ⟨c1, c2, c3, c4, c5⟩ := six_over ⟨k, by omega⟩ ⟨l, by omega⟩
  simp only at c1 c2 c3 c4 c5
  have hq := sixP_q k
  have hr := sixP_q l
  generalize sixP k = a at *
  generalize sixP l = b at *
  have hj := hq.join hr
  have hv := overP_q (joinP a b)
  refine still_below (over_core n0 n1 _ _ _ _ _ _ _ _ _ _ _ _ w h6 h7 (join_any a b hq hr) (over_any _ hj) (fun w => ?_) (fun w => ?_) (fun w => ?_) (q_self _ hq.1) (q_self _ hq.2) (q_self _ hv.1) (q_self _ hv.2)
    ((mark_eq _ _ 0 4 hv (by decide) (by decide)).trans c4) (mark_eq _ _ 0 4 hq (by decide) (by decide)) (mark_eq _ _ 0 4 hr (by decide) (by decide)) ((mark_eq _ _ 0 0 hv (by decide) (by decide)).trans c5) (mark_eq _ _ 0 0 hq (by decide) (by decide)) (mark_eq _ _ 0 0 hr (by decide) (by decide)))
  · have h := over_any a hq w
    rw [c1] at h
    exact h
  · have h := right_any _ hv w
    rw [c2] at h
    exact h
  · have h := join_any (joinP a b) a hj hq w
    rw [c3] at h
    exact h
end Go.Proofs.Ytlkikaeboeaadaa
