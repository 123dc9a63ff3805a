/-
  THE WALK OF bailifflaw4.MarkLaws: it returns true; nothing turns.
-/
import Derived.Test.YtlkikaeboeaadaaMarkIndetW
namespace Go.Proofs.Ytlkikaeboeaadaa
open Go.RowKit
set_option linter.unusedVariables false

set_option maxHeartbeats 2000000 in
theorem laws_core (n m k : Int) (a1 a2 b1 b2 c1 c2 x1 x2 y1 y2 z1 z2 : Nat) (w : World)
    (h1 : Hid (Ans 21 #[.int .i64 n] (.complex .f64 a1 a2)))
    (h2 : Hid (Ans 21 #[.int .i64 m] (.complex .f64 b1 b2)))
    (h3 : Hid (Ans 21 #[.int .i64 k] (.complex .f64 c1 c2)))
    (jab : Hid (Ans 17 #[(.complex .f64 a1 a2), (.complex .f64 b1 b2)] (.complex .f64 x1 x2)))
    (jba : Hid (Ans 17 #[(.complex .f64 b1 b2), (.complex .f64 a1 a2)] (.complex .f64 x1 x2)))
    (jbc : Hid (Ans 17 #[(.complex .f64 b1 b2), (.complex .f64 c1 c2)] (.complex .f64 y1 y2)))
    (jay : Hid (Ans 17 #[(.complex .f64 a1 a2), (.complex .f64 y1 y2)] (.complex .f64 z1 z2)))
    (jxc : Hid (Ans 17 #[(.complex .f64 x1 x2), (.complex .f64 c1 c2)] (.complex .f64 z1 z2)))
    (jaa : Hid (Ans 17 #[(.complex .f64 a1 a2), (.complex .f64 a1 a2)] (.complex .f64 a1 a2)))
    (ja0 : Hid (Ans 17 #[(.complex .f64 a1 a2), (.complex .f64 0 0)] (.complex .f64 a1 a2)))
    (ta : Hid (Ans 19 #[(.complex .f64 a1 a2)] (.complex .f64 a2 a1)))
    (tta : Hid (Ans 19 #[(.complex .f64 a2 a1)] (.complex .f64 a1 a2)))
    (tx : Hid (Ans 19 #[(.complex .f64 x1 x2)] (.complex .f64 x2 x1)))
    (tb : Hid (Ans 19 #[(.complex .f64 b1 b2)] (.complex .f64 b2 b1)))
    (jt : Hid (Ans 17 #[(.complex .f64 a2 a1), (.complex .f64 b2 b1)] (.complex .f64 x2 x1)))
    (rt : Hid (Ans 22 #[(.complex .f64 a2 a1)] (.bool true)))
    (sa1 : (FloatKind.f64.format.order a1 a1 == some .eq) = true)
    (sa2 : (FloatKind.f64.format.order a2 a2 == some .eq) = true)
    (sx1 : (FloatKind.f64.format.order x1 x1 == some .eq) = true)
    (sx2 : (FloatKind.f64.format.order x2 x2 == some .eq) = true)
    (sz1 : (FloatKind.f64.format.order z1 z1 == some .eq) = true)
    (sz2 : (FloatKind.f64.format.order z2 z2 == some .eq) = true)
    : Calls Try.prog 5 #[.int .i64 n, .int .i64 m, .int .i64 k] w fun e w' => e = .returned (.bool true) ∧ w = w' := by
  go_enter Try.func5, Try.ntmps5
  go_wp2_with fail
  refine (h1.out w).mono ?_
  rintro e w' ⟨rfl, rfl⟩
  go_wp2_with fail
  refine (h2.out w).mono ?_
  rintro e w' ⟨rfl, rfl⟩
  go_wp2_with fail
  refine (h3.out w).mono ?_
  rintro e w' ⟨rfl, rfl⟩
  go_wp2_with fail
  refine (jab.out w).mono ?_
  rintro e w' ⟨rfl, rfl⟩
  go_wp2_with fail
  refine (jba.out w).mono ?_
  rintro e w' ⟨rfl, rfl⟩
  go_wp2_with fail
  refine (jbc.out w).mono ?_
  rintro e w' ⟨rfl, rfl⟩
  go_wp2_with fail
  refine (jay.out w).mono ?_
  rintro e w' ⟨rfl, rfl⟩
  go_wp2_with fail
  refine (jab.out w).mono ?_
  rintro e w' ⟨rfl, rfl⟩
  go_wp2_with fail
  refine (jxc.out w).mono ?_
  rintro e w' ⟨rfl, rfl⟩
  go_wp2_with fail
  refine (jaa.out w).mono ?_
  rintro e w' ⟨rfl, rfl⟩
  go_wp2_with fail
  refine (ja0.out w).mono ?_
  rintro e w' ⟨rfl, rfl⟩
  go_wp2_with fail
  refine (ta.out w).mono ?_
  rintro e w' ⟨rfl, rfl⟩
  go_wp2_with fail
  refine (tta.out w).mono ?_
  rintro e w' ⟨rfl, rfl⟩
  go_wp2_with fail
  refine (jab.out w).mono ?_
  rintro e w' ⟨rfl, rfl⟩
  go_wp2_with fail
  refine (tx.out w).mono ?_
  rintro e w' ⟨rfl, rfl⟩
  go_wp2_with fail
  refine (ta.out w).mono ?_
  rintro e w' ⟨rfl, rfl⟩
  go_wp2_with fail
  refine (tb.out w).mono ?_
  rintro e w' ⟨rfl, rfl⟩
  go_wp2_with fail
  refine (jt.out w).mono ?_
  rintro e w' ⟨rfl, rfl⟩
  go_wp2_with fail
  refine (ta.out w).mono ?_
  rintro e w' ⟨rfl, rfl⟩
  go_wp2_with fail
  refine (rt.out w).mono ?_
  rintro e w' ⟨rfl, rfl⟩
  go_wp2_with fail
  refine (markRuns_still w).mono ?_
  rintro e w' ⟨rfl, rfl⟩
  go_wp2
  go_ret
  exact ⟨rfl, rfl⟩

theorem joinP_comm (a b : Nat × Nat) : joinP b a = joinP a b := by unfold joinP; rw [Nat.max_comm, Nat.max_comm b.2]
theorem joinP_assoc (a b c : Nat × Nat) : joinP (joinP a b) c = joinP a (joinP b c) := by unfold joinP; simp only [Nat.max_assoc]
theorem joinP_self (a : Nat × Nat) : joinP a a = a := by unfold joinP; simp only [Nat.max_self]
theorem joinP_nought (a : Nat × Nat) : joinP a (0, 0) = a := by unfold joinP; simp only [Nat.max_zero]
theorem joinP_swap (a b : Nat × Nat) : joinP (swapP a) (swapP b) = swapP (joinP a b) := rfl
theorem six_right_turn : ∀ k : Fin 6, (!(nameP (swapP (sixP k.1))).toList.isEmpty) = true := by decide +kernel
theorem markLaws_walk (n0 : Int) (n1 : Int) (n2 : Int) (w : World) (lo0 : -9223372036854775808 ≤ n0) (hi0 : n0 ≤ 9223372036854775807) (lo1 : -9223372036854775808 ≤ n1) (hi1 : n1 ≤ 9223372036854775807) (lo2 : -9223372036854775808 ≤ n2) (hi2 : n2 ≤ 9223372036854775807) :
    Calls Try.prog 5 #[.int .i64 n0, .int .i64 n1, .int .i64 n2] w fun e w' => e = .returned (.bool true) ∧ Below w.heap.size w w' := by
  obtain ⟨k, hk, h6⟩ := six_all n0
  obtain ⟨l, hl, h7⟩ := six_all n1
  obtain ⟨m, hm, h8⟩ := six_all n2
  have c1 := six_right_turn ⟨k, by omega⟩
  simp only at c1
  have hq := sixP_q k
  have hr := sixP_q l
  have hs := sixP_q m
  generalize sixP k = a at *
  generalize sixP l = b at *
  generalize sixP m = c at *
  have hab := hq.join hr
  have hbc := hr.join hs
  have hz := hq.join hbc
  refine still_below (laws_core n0 n1 n2 _ _ _ _ _ _ _ _ _ _ _ _ w h6 h7 h8 (join_any a b hq hr) (fun w => ?_) (join_any b c hr hs) (join_any a _ hq hbc) (fun w => ?_) (fun w => ?_) (fun w => ?_)
    (turn_any a) (turn_any (swapP a)) (turn_any (joinP a b)) (turn_any b) (join_any (swapP a) (swapP b) hq.swap hr.swap) (fun w => ?_) (q_self _ hq.1) (q_self _ hq.2) (q_self _ hab.1) (q_self _ hab.2) (q_self _ hz.1) (q_self _ hz.2))
  · have h := join_any b a hr hq w
    rw [joinP_comm] at h
    exact h
  · have h := join_any (joinP a b) c hab hs w
    rw [joinP_assoc] at h
    exact h
  · have h := join_any a a hq hq w
    rw [joinP_self] at h
    exact h
  · have h := join_any a (0, 0) hq ⟨by decide, by decide⟩ w
    rw [joinP_nought] at h
    exact h
  · have h := right_any _ hq.swap w
    rw [c1] at h
    exact h
end Go.Proofs.Ytlkikaeboeaadaa
