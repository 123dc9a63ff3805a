/-
  MARKS: the floats that this program's decisions are made of are quarters: their bits, their order, the greater of two.
-/
import Derived.Test.YtlkikaeboeaadaaRows
import Derived.Test.YtlkikaeboeaadaaBase
import Derived.WalkLawsBesides
namespace Go.Proofs.Ytlkikaeboeaadaa
open Go.RowKit
set_option linter.unusedVariables false

/-- The bits of k quarters. -/
def qb : Nat → Nat
  | 0 => 0
  | 1 => 4598175219545276416
  | 2 => 4602678819172646912
  | 3 => 4604930618986332160
  | _ => 4607182418800017408
theorem qb_order : ∀ i j : Fin 5, FloatKind.f64.format.order (qb i.1) (qb j.1) = some (compare i.1 j.1) := by decide +kernel
theorem q_ord (i j : Nat) (hi : i ≤ 4) (hj : j ≤ 4) : FloatKind.f64.format.order (qb i) (qb j) = some (compare i j) := qb_order ⟨i, by omega⟩ ⟨j, by omega⟩
theorem q_eq (i j : Nat) (hi : i ≤ 4) (hj : j ≤ 4) : (FloatKind.f64.format.order (qb i) (qb j) == some .eq) = (i == j) := by
  rw [q_ord i j hi hj, Bool.eq_iff_iff, beq_iff_eq, beq_iff_eq, Option.some.injEq, Nat.compare_eq_eq]
theorem q_ge (i j : Nat) (hi : i ≤ 4) (hj : j ≤ 4) : (FloatKind.f64.format.order (qb i) (qb j) == some .gt || FloatKind.f64.format.order (qb i) (qb j) == some .eq) = decide (j ≤ i) := by
  rw [q_ord i j hi hj, Bool.eq_iff_iff, Bool.or_eq_true, beq_iff_eq, beq_iff_eq, Option.some.injEq, Option.some.injEq, Nat.compare_eq_eq, Nat.compare_eq_gt, decide_eq_true_eq]
  omega
theorem qb_neg : ∀ i : Fin 5, (FloatKind.f64.decode (qb i.1)).neg = false := by decide +kernel
theorem q_max (i j : Nat) (hi : i ≤ 4) (hj : j ≤ 4) (P : Program) (ts : Array TypeId) (t : TypeId) (w : World) : (Builtin.max_ ts t #[.float .f64 (qb i), .float .f64 (qb j)]).run P w = .ok (.float .f64 (qb (max i j))) w := by
  have hn := qb_neg ⟨i, by omega⟩
  simp only [] at hn
  rcases Nat.lt_trichotomy i j with h | h | h
  · have ho := q_ord i j hi hj
    rw [Nat.compare_eq_lt.2 h] at ho
    rw [Nat.max_eq_right (by omega)]
    simp [Builtin.max_, Builtin.max2, ho]
  · subst h
    have ho := q_ord i i hi hj
    rw [Nat.compare_eq_eq.2 rfl] at ho
    rw [Nat.max_self]
    simp [Builtin.max_, Builtin.max2, ho, hn]
  · have ho := q_ord i j hi hj
    rw [Nat.compare_eq_gt.2 h] at ho
    rw [Nat.max_eq_left (by omega)]
    simp [Builtin.max_, Builtin.max2, ho]
/-- A mark of so many quarters each way. -/
def mk (i j : Nat) : Value := .complex .f64 (qb i) (qb j)
def swapP (m : Nat × Nat) : Nat × Nat := (m.2, m.1)
/-- Of each part the greater one. -/
def joinP (a b : Nat × Nat) : Nat × Nat := (max a.1 b.1, max a.2 b.2)
/-- What a join comes to where Deny wins. -/
def overP (m : Nat × Nat) : Nat × Nat :=
  if m.2 = 4 then (0, 4) else if m.2 = 2 ∧ 2 ≤ m.1 then (2, 2) else if m.2 = 2 then (0, 2) else if m.1 = 4 then (4, 0) else if m.1 = 2 then (2, 0) else (0, 0)
def QP (m : Nat × Nat) : Prop := m.1 ≤ 4 ∧ m.2 ≤ 4
theorem QP.swap {m : Nat × Nat} (h : QP m) : QP (swapP m) := ⟨h.2, h.1⟩
theorem QP.join {a b : Nat × Nat} (h : QP a) (k : QP b) : QP (joinP a b) := ⟨Nat.max_le.2 ⟨h.1, k.1⟩, Nat.max_le.2 ⟨h.2, k.2⟩⟩
theorem overP_q (m : Nat × Nat) : QP (overP m) := by
  unfold overP
  by_cases h1 : m.2 = 4
  · rw [if_pos h1]; exact ⟨by decide, by decide⟩
  rw [if_neg h1]
  by_cases h2 : m.2 = 2 ∧ 2 ≤ m.1
  · rw [if_pos h2]; exact ⟨by decide, by decide⟩
  rw [if_neg h2]
  by_cases h3 : m.2 = 2
  · rw [if_pos h3]; exact ⟨by decide, by decide⟩
  rw [if_neg h3]
  by_cases h4 : m.1 = 4
  · rw [if_pos h4]; exact ⟨by decide, by decide⟩
  rw [if_neg h4]
  by_cases h5 : m.1 = 2
  · rw [if_pos h5]; exact ⟨by decide, by decide⟩
  rw [if_neg h5]; exact ⟨by decide, by decide⟩

theorem parts_any (a b : Nat) (w : World) : Calls Try.prog 39 #[.complex .f64 a b] w fun e w' => e = .returned (.tuple #[.float .f64 a, .float .f64 b]) ∧ w = w' := by
  go_enter Try.func39, Try.ntmps39
  go_wp2
  go_ret2
  exact ⟨rfl, rfl⟩
theorem of_any (a b : Nat) (w : World) : Calls Try.prog 40 #[.float .f64 a, .float .f64 b] w fun e w' => e = .returned (.complex .f64 a b) ∧ w = w' := by
  go_enter Try.func40, Try.ntmps40
  go_wp2
  go_ret
  exact ⟨rfl, rfl⟩
theorem turn_any (m : Nat × Nat) (w : World) : Calls Try.prog 19 #[mk m.1 m.2] w fun e w' => e = .returned (mk (swapP m).1 (swapP m).2) ∧ w = w' := by
  unfold mk swapP
  simp only []
  generalize qb m.1 = a
  generalize qb m.2 = b
  go_enter Try.func19, Try.ntmps19
  go_wp2_with fail
  refine (parts_any a b w).mono ?_
  rintro e w' ⟨rfl, rfl⟩
  go_wp2_with fail
  refine (of_any b a w).mono ?_
  rintro e w' ⟨rfl, rfl⟩
  go_wp2
  go_ret
  exact ⟨rfl, rfl⟩
theorem join_any (m n : Nat × Nat) (hm : QP m) (hn : QP n) (w : World) : Calls Try.prog 17 #[mk m.1 m.2, mk n.1 n.2] w fun e w' => e = .returned (mk (joinP m n).1 (joinP m n).2) ∧ w = w' := by
  have h1 := q_max m.1 n.1 hm.1 hn.1 Try.prog
  have h2 := q_max m.2 n.2 hm.2 hn.2 Try.prog
  unfold mk joinP
  simp only []
  generalize qb (max m.1 n.1) = r1 at h1 ⊢
  generalize qb (max m.2 n.2) = r2 at h2 ⊢
  generalize qb m.1 = a at h1 ⊢
  generalize qb m.2 = b at h2 ⊢
  generalize qb n.1 = c at h1 ⊢
  generalize qb n.2 = d at h2 ⊢
  go_enter Try.func17, Try.ntmps17
  go_wp2_with fail
  refine (parts_any a b w).mono ?_
  rintro e w' ⟨rfl, rfl⟩
  go_wp2_with fail
  refine (parts_any c d w).mono ?_
  rintro e w' ⟨rfl, rfl⟩
  go_wp2_with fail
  refine (of_any r1 r2 w).mono ?_
  rintro e w' ⟨rfl, rfl⟩
  go_wp2
  go_ret
  exact ⟨rfl, rfl⟩
end Go.Proofs.Ytlkikaeboeaadaa
