/-
  CONTRACT OF mark.Indet; THE WALK OF bailifflaw4.MarkIndet: it returns true; nothing turns.
-/
import Derived.Test.YtlkikaeboeaadaaMarkRunsW
namespace Go.Proofs.Ytlkikaeboeaadaa
open Go.RowKit
set_option linter.unusedVariables false

/-- What is left of a decision that isn't known. -/
def indetP (m : Nat × Nat) : Nat × Nat := if m = (4, 0) then (2, 0) else if m = (0, 4) then (0, 2) else m
theorem indetP_q {m : Nat × Nat} (h : QP m) : QP (indetP m) := by
  unfold indetP
  by_cases h1 : m = (4, 0)
  · rw [if_pos h1]; exact ⟨by decide, by decide⟩
  rw [if_neg h1]
  by_cases h2 : m = (0, 4)
  · rw [if_pos h2]; exact ⟨by decide, by decide⟩
  rw [if_neg h2]; exact h
set_option maxHeartbeats 1000000 in
theorem indet_any (m : Nat × Nat) (hm : QP m) (w : World) : Calls Try.prog 25 #[mk m.1 m.2] w fun e w' => e = .returned (mk (indetP m).1 (indetP m).2) ∧ w = w' := by
  obtain ⟨p, d⟩ := m
  have e1 : ((FloatKind.f64.format.order (qb p) 4607182418800017408 == some .eq) && (FloatKind.f64.format.order (qb d) 0 == some .eq)) = ((p, d) == (4, 0)) := mark_eq p d 4 0 hm (by decide) (by decide)
  have e2 : ((FloatKind.f64.format.order (qb p) 0 == some .eq) && (FloatKind.f64.format.order (qb d) 4607182418800017408 == some .eq)) = ((p, d) == (0, 4)) := mark_eq p d 0 4 hm (by decide) (by decide)
  have HR : ∃ r : Nat × Nat, indetP (p, d) = r ∧ True := ⟨_, rfl, trivial⟩
  by_cases c1 : (p, d) = (4, 0)
  · rw [show indetP (p, d) = (2, 0) from if_pos c1]
    rw [show ((p, d) == (4, 0)) = true from beq_iff_eq.2 c1] at e1
    show Calls Try.prog 25 #[.complex .f64 (qb p) (qb d)] w _
    generalize qb p = a at e1 ⊢
    generalize qb d = b at e1 ⊢
    clear HR c1 e2 hm
    go_enter Try.func25, Try.ntmps25
    go_wp2
    go_ret
    exact ⟨rfl, rfl⟩
  rw [show ((p, d) == (4, 0)) = false from beq_eq_false_iff_ne.2 c1] at e1
  by_cases c2 : (p, d) = (0, 4)
  · rw [show indetP (p, d) = (0, 2) from (if_neg c1).trans (if_pos c2)]
    rw [show ((p, d) == (0, 4)) = true from beq_iff_eq.2 c2] at e2
    show Calls Try.prog 25 #[.complex .f64 (qb p) (qb d)] w _
    generalize qb p = a at e1 e2 ⊢
    generalize qb d = b at e1 e2 ⊢
    clear HR c1 c2 hm
    go_enter Try.func25, Try.ntmps25
    go_wp2
    go_ret
    exact ⟨rfl, rfl⟩
  rw [show indetP (p, d) = (p, d) from (if_neg c1).trans (if_neg c2)]
  rw [show ((p, d) == (0, 4)) = false from beq_eq_false_iff_ne.2 c2] at e2
  show Calls Try.prog 25 #[.complex .f64 (qb p) (qb d)] w fun e w' => e = .returned (.complex .f64 (qb p) (qb d)) ∧ w = w'
  generalize qb p = a at e1 e2 ⊢
  generalize qb d = b at e1 e2 ⊢
  clear HR c1 c2 hm
  go_enter Try.func25, Try.ntmps25
  go_wp2
  go_ret
  exact ⟨rfl, rfl⟩

/-- A function's answer, whatever the world, which stays. -/
def Ans (f : FuncId) (args : Array Value) (v : Value) : Prop := ∀ w, Calls Try.prog f args w fun e w' => e = .returned v ∧ w = w'
theorem still_below {f : FuncId} {args : Array Value} {v : Value} {w : World} (h : Calls Try.prog f args w fun e w' => e = .returned v ∧ w = w') : Calls Try.prog f args w fun e w' => e = .returned v ∧ Below w.heap.size w w' :=
  h.mono fun _ _ h => ⟨h.1, by rw [← h.2]; exact Below.refl _ _⟩
theorem q_gt0 (i : Nat) (hi : i ≤ 4) : (FloatKind.f64.format.order (qb i) 0 == some .gt) = decide (0 < i) := by
  have h := q_ord i 0 hi (by decide)
  have h0 : FloatKind.f64.format.order (qb i) 0 = some (compare i 0) := h
  rw [h0, Bool.eq_iff_iff, beq_iff_eq, Option.some.injEq, Nat.compare_eq_gt, decide_eq_true_eq]
theorem q_self (i : Nat) (hi : i ≤ 4) : (FloatKind.f64.format.order (qb i) (qb i) == some .eq) = true := by rw [q_eq i i hi hi]; simp

set_option maxHeartbeats 1000000 in
theorem indet_core (n : Int) (a1 a2 m1 m2 : Nat) (X Y : Bool) (w : World)
    (h1 : Hid (Ans 21 #[.int .i64 n] (.complex .f64 a1 a2))) (h2 : Hid (Ans 25 #[.complex .f64 a1 a2] (.complex .f64 m1 m2)))
    (h3 : Hid (Ans 22 #[.complex .f64 m1 m2] (.bool true))) (h4 : Hid (Ans 25 #[.complex .f64 m1 m2] (.complex .f64 m1 m2)))
    (e1 : ((FloatKind.f64.format.order m1 4607182418800017408 == some .eq) && (FloatKind.f64.format.order m2 0 == some .eq)) = false)
    (e2 : ((FloatKind.f64.format.order m1 0 == some .eq) && (FloatKind.f64.format.order m2 4607182418800017408 == some .eq)) = false)
    (g1 : (FloatKind.f64.format.order m1 0 == some .gt) = X) (g2 : (FloatKind.f64.format.order a1 0 == some .gt) = X)
    (g3 : (FloatKind.f64.format.order m2 0 == some .gt) = Y) (g4 : (FloatKind.f64.format.order a2 0 == some .gt) = Y)
    (s1 : (FloatKind.f64.format.order m1 m1 == some .eq) = true) (s2 : (FloatKind.f64.format.order m2 m2 == some .eq) = true) :
    Calls Try.prog 8 #[.int .i64 n] w fun e w' => e = .returned (.bool true) ∧ w = w' := by
  go_enter Try.func8, Try.ntmps8
  go_wp2_with fail
  refine (h1.out w).mono ?_
  rintro e w' ⟨rfl, rfl⟩
  go_wp2_with fail
  refine (h2.out w).mono ?_
  rintro e w' ⟨rfl, rfl⟩
  go_wp2_with fail
  refine (h3.out w).mono ?_
  rintro e w' ⟨rfl, rfl⟩
  go_wp2_with fail
  refine (h4.out w).mono ?_
  rintro e w' ⟨rfl, rfl⟩
  go_wp2_with fail
  refine (markRuns_still w).mono ?_
  rintro e w' ⟨rfl, rfl⟩
  go_wp2
  go_ret
  exact ⟨rfl, rfl⟩
theorem six_indet : ∀ k : Nat, k ≤ 5 → indetP (sixP k) ≠ (4, 0) ∧ indetP (sixP k) ≠ (0, 4) ∧ indetP (indetP (sixP k)) = indetP (sixP k) ∧ (!(nameP (indetP (sixP k))).toList.isEmpty) = true ∧ decide (0 < (indetP (sixP k)).1) = decide (0 < (sixP k).1) ∧ decide (0 < (indetP (sixP k)).2) = decide (0 < (sixP k).2)
  | 0, _ | 1, _ | 2, _ | 3, _ | 4, _ | 5, _ => by decide +kernel
  | _ + 6, h => by omega
theorem markIndet_walk (n0 : Int) (w : World) (lo0 : -9223372036854775808 ≤ n0) (hi0 : n0 ≤ 9223372036854775807) :
    Calls Try.prog 8 #[.int .i64 n0] w fun e w' => e = .returned (.bool true) ∧ Below w.heap.size w w' := by
  obtain ⟨k, hk, h6⟩ := six_all n0
  obtain ⟨c1, c2, c3, c4, c5, c6⟩ := six_indet k hk
  have hq := sixP_q k
  have hmq := indetP_q hq
  refine still_below (indet_core n0 _ _ _ _ _ _ w h6 (fun w => indet_any _ hq w) (fun w => ?_) (fun w => ?_) ((mark_eq _ _ 4 0 hmq (by decide) (by decide)).trans (beq_eq_false_iff_ne.2 c1)) ((mark_eq _ _ 0 4 hmq (by decide) (by decide)).trans (beq_eq_false_iff_ne.2 c2))
    (q_gt0 _ hmq.1) ((q_gt0 _ hq.1).trans c5.symm) (q_gt0 _ hmq.2) ((q_gt0 _ hq.2).trans c6.symm) (q_self _ hmq.1) (q_self _ hmq.2))
  · have h := right_any _ hmq w
    rw [c4] at h
    exact h
  · have h := indet_any _ hmq w
    rw [c3] at h
    exact h
end Go.Proofs.Ytlkikaeboeaadaa
