/-
  CONTRACTS OF THE DOCUMENT'S OWN MARKS (bailiffref1).
-/
import Derived.Test.YtlkikaeboeaadaaMarkIndetW
namespace Go.Proofs.Ytlkikaeboeaadaa
open Go.RowKit
set_option linter.unusedVariables false

/-- Is it a decision? -/
def rightP (m : Nat × Nat) : Bool :=
  if m = (0, 0) then true else if m = (4, 0) then true else if m = (0, 4) then true else if m = (2, 0) then true else if m = (0, 2) then true else if m = (2, 2) then true else false
theorem right_name (m : Nat × Nat) : (!(nameP m).toList.isEmpty) = rightP m := by
  unfold nameP rightP
  by_cases h0 : m = (0, 0)
  · rw [if_pos h0, if_pos h0]; kernel_rfl
  rw [if_neg h0, if_neg h0]
  by_cases h1 : m = (4, 0)
  · rw [if_pos h1, if_pos h1]; kernel_rfl
  rw [if_neg h1, if_neg h1]
  by_cases h2 : m = (0, 4)
  · rw [if_pos h2, if_pos h2]; kernel_rfl
  rw [if_neg h2, if_neg h2]
  by_cases h3 : m = (2, 0)
  · rw [if_pos h3, if_pos h3]; kernel_rfl
  rw [if_neg h3, if_neg h3]
  by_cases h4 : m = (0, 2)
  · rw [if_pos h4, if_pos h4]; kernel_rfl
  rw [if_neg h4, if_neg h4]
  by_cases h5 : m = (2, 2)
  · rw [if_pos h5, if_pos h5]; kernel_rfl
  rw [if_neg h5, if_neg h5]; kernel_rfl
theorem rightm_any (m : Nat × Nat) (hm : QP m) (w : World) : Calls Try.prog 22 #[mk m.1 m.2] w fun e w' => e = .returned (.bool (rightP m)) ∧ w = w' := by
  rw [← right_name]; exact right_any m hm w
set_option maxHeartbeats 1000000 in
theorem refRight_any (m : Nat × Nat) (hm : QP m) (w : World) : Calls Try.prog 24 #[mk m.1 m.2] w fun e w' => e = .returned (.bool (rightP m)) ∧ w = w' := by
  obtain ⟨p, d⟩ := m
  have e0 : ((FloatKind.f64.format.order (qb p) 0 == some .eq) && (FloatKind.f64.format.order (qb d) 0 == some .eq)) = ((p, d) == (0, 0)) := mark_eq p d 0 0 hm (by decide) (by decide)
  have e1 : ((FloatKind.f64.format.order (qb p) 4607182418800017408 == some .eq) && (FloatKind.f64.format.order (qb d) 0 == some .eq)) = ((p, d) == (4, 0)) := mark_eq p d 4 0 hm (by decide) (by decide)
  have e2 : ((FloatKind.f64.format.order (qb p) 0 == some .eq) && (FloatKind.f64.format.order (qb d) 4607182418800017408 == some .eq)) = ((p, d) == (0, 4)) := mark_eq p d 0 4 hm (by decide) (by decide)
  have e3 : ((FloatKind.f64.format.order (qb p) 4602678819172646912 == some .eq) && (FloatKind.f64.format.order (qb d) 0 == some .eq)) = ((p, d) == (2, 0)) := mark_eq p d 2 0 hm (by decide) (by decide)
  have e4 : ((FloatKind.f64.format.order (qb p) 0 == some .eq) && (FloatKind.f64.format.order (qb d) 4602678819172646912 == some .eq)) = ((p, d) == (0, 2)) := mark_eq p d 0 2 hm (by decide) (by decide)
  have e5 : ((FloatKind.f64.format.order (qb p) 4602678819172646912 == some .eq) && (FloatKind.f64.format.order (qb d) 4602678819172646912 == some .eq)) = ((p, d) == (2, 2)) := mark_eq p d 2 2 hm (by decide) (by decide)
  show Calls Try.prog 24 #[.complex .f64 (qb p) (qb d)] w _
  generalize hR : rightP (p, d) = R
  have HR := hide hR
  clear hR hm
  unfold rightP at HR
  generalize qb p = a at e0 e1 e2 e3 e4 e5 ⊢
  generalize qb d = b at e0 e1 e2 e3 e4 e5 ⊢
  by_cases c0 : (p, d) = (0, 0)
  · rw [if_pos c0] at HR
    have HR' := HR.out
    subst HR'
    rw [show ((p, d) == (0, 0)) = true from beq_iff_eq.2 c0] at e0
    clear HR c0 e1 e2 e3 e4 e5
    go_enter Try.func24, Try.ntmps24
    go_wp2
    go_ret
    exact ⟨rfl, rfl⟩
  rw [if_neg c0] at HR
  by_cases c1 : (p, d) = (4, 0)
  · rw [if_pos c1] at HR
    have HR' := HR.out
    subst HR'
    rw [show ((p, d) == (4, 0)) = true from beq_iff_eq.2 c1] at e1
    rw [show ((p, d) == (0, 0)) = false from beq_eq_false_iff_ne.2 c0] at e0
    clear HR c0 c1 e2 e3 e4 e5
    go_enter Try.func24, Try.ntmps24
    go_wp2
    go_ret
    exact ⟨rfl, rfl⟩
  rw [if_neg c1] at HR
  by_cases c2 : (p, d) = (0, 4)
  · rw [if_pos c2] at HR
    have HR' := HR.out
    subst HR'
    rw [show ((p, d) == (0, 4)) = true from beq_iff_eq.2 c2] at e2
    rw [show ((p, d) == (0, 0)) = false from beq_eq_false_iff_ne.2 c0] at e0
    rw [show ((p, d) == (4, 0)) = false from beq_eq_false_iff_ne.2 c1] at e1
    clear HR c0 c1 c2 e3 e4 e5
    go_enter Try.func24, Try.ntmps24
    go_wp2
    go_ret
    exact ⟨rfl, rfl⟩
  rw [if_neg c2] at HR
  by_cases c3 : (p, d) = (2, 0)
  · rw [if_pos c3] at HR
    have HR' := HR.out
    subst HR'
    rw [show ((p, d) == (2, 0)) = true from beq_iff_eq.2 c3] at e3
    rw [show ((p, d) == (0, 0)) = false from beq_eq_false_iff_ne.2 c0] at e0
    rw [show ((p, d) == (4, 0)) = false from beq_eq_false_iff_ne.2 c1] at e1
    rw [show ((p, d) == (0, 4)) = false from beq_eq_false_iff_ne.2 c2] at e2
    clear HR c0 c1 c2 c3 e4 e5
    go_enter Try.func24, Try.ntmps24
    go_wp2
    go_ret
    exact ⟨rfl, rfl⟩
  rw [if_neg c3] at HR
  by_cases c4 : (p, d) = (0, 2)
  · rw [if_pos c4] at HR
    have HR' := HR.out
    subst HR'
    rw [show ((p, d) == (0, 2)) = true from beq_iff_eq.2 c4] at e4
    rw [show ((p, d) == (0, 0)) = false from beq_eq_false_iff_ne.2 c0] at e0
    rw [show ((p, d) == (4, 0)) = false from beq_eq_false_iff_ne.2 c1] at e1
    rw [show ((p, d) == (0, 4)) = false from beq_eq_false_iff_ne.2 c2] at e2
    rw [show ((p, d) == (2, 0)) = false from beq_eq_false_iff_ne.2 c3] at e3
    clear HR c0 c1 c2 c3 c4 e5
    go_enter Try.func24, Try.ntmps24
    go_wp2
    go_ret
    exact ⟨rfl, rfl⟩
  rw [if_neg c4] at HR
  by_cases c5 : (p, d) = (2, 2)
  · rw [if_pos c5] at HR
    have HR' := HR.out
    subst HR'
    rw [show ((p, d) == (2, 2)) = true from beq_iff_eq.2 c5] at e5
    rw [show ((p, d) == (0, 0)) = false from beq_eq_false_iff_ne.2 c0] at e0
    rw [show ((p, d) == (4, 0)) = false from beq_eq_false_iff_ne.2 c1] at e1
    rw [show ((p, d) == (0, 4)) = false from beq_eq_false_iff_ne.2 c2] at e2
    rw [show ((p, d) == (2, 0)) = false from beq_eq_false_iff_ne.2 c3] at e3
    rw [show ((p, d) == (0, 2)) = false from beq_eq_false_iff_ne.2 c4] at e4
    clear HR c0 c1 c2 c3 c4 c5 
    go_enter Try.func24, Try.ntmps24
    go_wp2
    go_ret
    exact ⟨rfl, rfl⟩
  rw [if_neg c5] at HR
  have HR' := HR.out
  subst HR'
  rw [show ((p, d) == (0, 0)) = false from beq_eq_false_iff_ne.2 c0] at e0
  rw [show ((p, d) == (4, 0)) = false from beq_eq_false_iff_ne.2 c1] at e1
  rw [show ((p, d) == (0, 4)) = false from beq_eq_false_iff_ne.2 c2] at e2
  rw [show ((p, d) == (2, 0)) = false from beq_eq_false_iff_ne.2 c3] at e3
  rw [show ((p, d) == (0, 2)) = false from beq_eq_false_iff_ne.2 c4] at e4
  rw [show ((p, d) == (2, 2)) = false from beq_eq_false_iff_ne.2 c5] at e5
  clear HR c0 c1 c2 c3 c4 c5
  go_enter Try.func24, Try.ntmps24
  go_wp2
  go_ret
  exact ⟨rfl, rfl⟩

set_option maxHeartbeats 1000000 in
theorem refIndet_any (m : Nat × Nat) (hm : QP m) (w : World) : Calls Try.prog 26 #[mk m.1 m.2] w fun e w' => e = .returned (mk (indetP m).1 (indetP m).2) ∧ w = w' := by
  obtain ⟨p, d⟩ := m
  have e1 : ((FloatKind.f64.format.order (qb p) 4607182418800017408 == some .eq) && (FloatKind.f64.format.order (qb d) 0 == some .eq)) = ((p, d) == (4, 0)) := mark_eq p d 4 0 hm (by decide) (by decide)
  have e2 : ((FloatKind.f64.format.order (qb p) 0 == some .eq) && (FloatKind.f64.format.order (qb d) 4607182418800017408 == some .eq)) = ((p, d) == (0, 4)) := mark_eq p d 0 4 hm (by decide) (by decide)
  have HR : ∃ r : Nat × Nat, indetP (p, d) = r ∧ True := ⟨_, rfl, trivial⟩
  by_cases c1 : (p, d) = (4, 0)
  · rw [show indetP (p, d) = (2, 0) from if_pos c1]
    rw [show ((p, d) == (4, 0)) = true from beq_iff_eq.2 c1] at e1
    show Calls Try.prog 26 #[.complex .f64 (qb p) (qb d)] w _
    generalize qb p = a at e1 ⊢
    generalize qb d = b at e1 ⊢
    clear HR c1 e2 hm
    go_enter Try.func26, Try.ntmps26
    go_wp2
    go_ret
    exact ⟨rfl, rfl⟩
  rw [show ((p, d) == (4, 0)) = false from beq_eq_false_iff_ne.2 c1] at e1
  by_cases c2 : (p, d) = (0, 4)
  · rw [show indetP (p, d) = (0, 2) from (if_neg c1).trans (if_pos c2)]
    rw [show ((p, d) == (0, 4)) = true from beq_iff_eq.2 c2] at e2
    show Calls Try.prog 26 #[.complex .f64 (qb p) (qb d)] w _
    generalize qb p = a at e1 e2 ⊢
    generalize qb d = b at e1 e2 ⊢
    clear HR c1 c2 hm
    go_enter Try.func26, Try.ntmps26
    go_wp2
    go_ret
    exact ⟨rfl, rfl⟩
  rw [show indetP (p, d) = (p, d) from (if_neg c1).trans (if_neg c2)]
  rw [show ((p, d) == (0, 4)) = false from beq_eq_false_iff_ne.2 c2] at e2
  show Calls Try.prog 26 #[.complex .f64 (qb p) (qb d)] w fun e w' => e = .returned (.complex .f64 (qb p) (qb d)) ∧ w = w'
  generalize qb p = a at e1 e2 ⊢
  generalize qb d = b at e1 e2 ⊢
  clear HR c1 c2 hm
  go_enter Try.func26, Try.ntmps26
  go_wp2
  go_ret
  exact ⟨rfl, rfl⟩

theorem refOver_any (m : Nat × Nat) (hm : QP m) (w : World) : Calls Try.prog 29 #[mk m.1 m.2] w fun e w' => e = .returned (mk (overP m).1 (overP m).2) ∧ w = w' := by
  obtain ⟨p, d⟩ := m
  have e1 : (FloatKind.f64.format.order (qb d) 4607182418800017408 == some .eq) = (d == 4) := q_eq d 4 hm.2 (by decide)
  have e2 : (FloatKind.f64.format.order (qb d) 4602678819172646912 == some .eq) = (d == 2) := q_eq d 2 hm.2 (by decide)
  have e3 : (FloatKind.f64.format.order (qb p) 4602678819172646912 == some .gt || FloatKind.f64.format.order (qb p) 4602678819172646912 == some .eq) = decide (2 ≤ p) := q_ge p 2 hm.1 (by decide)
  have e4 : (FloatKind.f64.format.order (qb p) 4607182418800017408 == some .eq) = (p == 4) := q_eq p 4 hm.1 (by decide)
  have e5 : (FloatKind.f64.format.order (qb p) 4602678819172646912 == some .eq) = (p == 2) := q_eq p 2 hm.1 (by decide)
  have hres : Hid (overP (p, d) = overP (p, d)) := rfl
  unfold mk
  show Calls Try.prog 29 #[.complex .f64 (qb p) (qb d)] w _
  generalize hR : overP (p, d) = R
  have HR := hide hR
  clear hR hres
  unfold overP at HR
  by_cases c1 : d = 4
  · rw [if_pos c1] at HR
    have HR' := HR.out
    subst HR'
    rw [show (d == 4) = true by simp; omega] at e1
    clear HR e2 e3 e4 e5 hm
    generalize qb d = b at e1 ⊢
    generalize qb p = a
    go_enter Try.func29, Try.ntmps29
    go_wp2
    go_ret
    exact ⟨rfl, rfl⟩
  rw [if_neg c1] at HR
  by_cases c2 : d = 2 ∧ 2 ≤ p
  · rw [if_pos c2] at HR
    have HR' := HR.out
    subst HR'
    rw [show (d == 4) = false by simp; omega] at e1
    rw [show (d == 2) = true by simp; omega] at e2
    rw [show (decide (2 ≤ p)) = true by simp; omega] at e3
    clear HR e4 e5 hm
    generalize qb d = b at e1 e2 ⊢
    generalize qb p = a at e3 ⊢
    go_enter Try.func29, Try.ntmps29
    go_wp2
    go_ret
    exact ⟨rfl, rfl⟩
  rw [if_neg c2] at HR
  by_cases c3 : d = 2
  · rw [if_pos c3] at HR
    have HR' := HR.out
    subst HR'
    rw [show (d == 4) = false by simp; omega] at e1
    rw [show (d == 2) = true by simp; omega] at e2
    rw [show (decide (2 ≤ p)) = false by simp; omega] at e3
    clear HR e4 e5 hm
    generalize qb d = b at e1 e2 ⊢
    generalize qb p = a at e3 ⊢
    go_enter Try.func29, Try.ntmps29
    go_wp2
    go_ret
    exact ⟨rfl, rfl⟩
  rw [if_neg c3] at HR
  by_cases c4 : p = 4
  · rw [if_pos c4] at HR
    have HR' := HR.out
    subst HR'
    rw [show (d == 4) = false by simp; omega] at e1
    rw [show (d == 2) = false by simp; omega] at e2
    rw [show (p == 4) = true by simp; omega] at e4
    clear HR e3 e5 hm
    generalize qb d = b at e1 e2 ⊢
    generalize qb p = a at e4 ⊢
    go_enter Try.func29, Try.ntmps29
    go_wp2
    go_ret
    exact ⟨rfl, rfl⟩
  rw [if_neg c4] at HR
  by_cases c5 : p = 2
  · rw [if_pos c5] at HR
    have HR' := HR.out
    subst HR'
    rw [show (d == 4) = false by simp; omega] at e1
    rw [show (d == 2) = false by simp; omega] at e2
    rw [show (p == 4) = false by simp; omega] at e4
    rw [show (p == 2) = true by simp; omega] at e5
    clear HR e3 hm
    generalize qb d = b at e1 e2 ⊢
    generalize qb p = a at e4 e5 ⊢
    go_enter Try.func29, Try.ntmps29
    go_wp2
    go_ret
    exact ⟨rfl, rfl⟩
  rw [if_neg c5] at HR
  have HR' := HR.out
  subst HR'
  rw [show (d == 4) = false by simp; omega] at e1
  rw [show (d == 2) = false by simp; omega] at e2
  rw [show (p == 4) = false by simp; omega] at e4
  rw [show (p == 2) = false by simp; omega] at e5
  clear HR e3 hm
  generalize qb d = b at e1 e2 ⊢
  generalize qb p = a at e4 e5 ⊢
  go_enter Try.func29, Try.ntmps29
  go_wp2
  go_ret
  exact ⟨rfl, rfl⟩
theorem refTurn_any (m : Nat × Nat) (w : World) : Calls Try.prog 27 #[mk m.1 m.2] w fun e w' => e = .returned (mk (swapP m).1 (swapP m).2) ∧ w = w' := by
  unfold mk swapP
  simp only []
  generalize qb m.1 = a
  generalize qb m.2 = b
  go_enter Try.func27, Try.ntmps27
  go_wp2
  go_ret
  exact ⟨rfl, rfl⟩
theorem refJoin_any (m n : Nat × Nat) (hm : QP m) (hn : QP n) (w : World) : Calls Try.prog 28 #[mk m.1 m.2, mk n.1 n.2] w fun e w' => e = .returned (mk (joinP m n).1 (joinP m n).2) ∧ w = w' := by
  have h1 := q_max m.1 n.1 hm.1 hn.1 Try.prog
  have h2 := q_max m.2 n.2 hm.2 hn.2 Try.prog
  unfold mk joinP
  simp only []
  generalize qb (max m.1 n.1) = r1 at h1 ⊢
  generalize qb (max m.2 n.2) = r2 at h2 ⊢
  generalize qb m.1 = a at h1 ⊢
  generalize qb m.2 = b at h2 ⊢
  generalize qb n.1 = c at h1 ⊢
  generalize qb n.2 = d at h2 ⊢
  go_enter Try.func28, Try.ntmps28
  go_wp2
  go_ret
  exact ⟨rfl, rfl⟩
end Go.Proofs.Ytlkikaeboeaadaa
