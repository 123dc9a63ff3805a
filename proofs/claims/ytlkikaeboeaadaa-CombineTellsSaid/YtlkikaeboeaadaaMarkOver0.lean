/-
  CONTRACTS OF mark.Over, mark.Name, mark.Right AND bailifflaw4.six.
-/
import Derived.Test.YtlkikaeboeaadaaMark
import Derived.Test.YtlkikaeboeaadaaWithin
namespace Go.Proofs.Ytlkikaeboeaadaa
open Go.RowKit
set_option linter.unusedVariables false

theorem over_any (m : Nat × Nat) (hm : QP m) (w : World) : Calls Try.prog 18 #[mk m.1 m.2] w fun e w' => e = .returned (mk (overP m).1 (overP m).2) ∧ w = w' := by
  obtain ⟨p, d⟩ := m
  have e1 : (FloatKind.f64.format.order (qb d) 4607182418800017408 == some .eq) = (d == 4) := q_eq d 4 hm.2 (by decide)
  have e2 : (FloatKind.f64.format.order (qb d) 4602678819172646912 == some .eq) = (d == 2) := q_eq d 2 hm.2 (by decide)
  have e3 : (FloatKind.f64.format.order (qb p) 4602678819172646912 == some .gt || FloatKind.f64.format.order (qb p) 4602678819172646912 == some .eq) = decide (2 ≤ p) := q_ge p 2 hm.1 (by decide)
  have e4 : (FloatKind.f64.format.order (qb p) 4607182418800017408 == some .eq) = (p == 4) := q_eq p 4 hm.1 (by decide)
  have e5 : (FloatKind.f64.format.order (qb p) 4602678819172646912 == some .eq) = (p == 2) := q_eq p 2 hm.1 (by decide)
  have hres : Hid (overP (p, d) = overP (p, d)) := rfl
  unfold mk
  show Calls Try.prog 18 #[.complex .f64 (qb p) (qb d)] w _
  generalize hR : overP (p, d) = R
  have HR := hide hR
  clear hR hres
  unfold overP at HR
  by_cases c1 : d = 4
  · rw [if_pos c1] at HR
    have HR' := HR.out
    subst HR'
    rw [show (d == 4) = true by simp; omega] at e1
    clear HR e2 e3 e4 e5 hm
    generalize qb d = b at e1 ⊢
    generalize qb p = a
    go_enter Try.func18, Try.ntmps18
    go_wp2_with fail
    refine (parts_any a b w).mono ?_
    rintro e w' ⟨rfl, rfl⟩
    go_wp2
    go_ret
    exact ⟨rfl, rfl⟩
  rw [if_neg c1] at HR
  by_cases c2 : d = 2 ∧ 2 ≤ p
  · rw [if_pos c2] at HR
    have HR' := HR.out
    subst HR'
    rw [show (d == 4) = false by simp; omega] at e1
    rw [show (d == 2) = true by simp; omega] at e2
    rw [show (decide (2 ≤ p)) = true by simp; omega] at e3
    clear HR e4 e5 hm
    generalize qb d = b at e1 e2 ⊢
    generalize qb p = a at e3 ⊢
    go_enter Try.func18, Try.ntmps18
    go_wp2_with fail
    refine (parts_any a b w).mono ?_
    rintro e w' ⟨rfl, rfl⟩
    go_wp2
    go_ret
    exact ⟨rfl, rfl⟩
  rw [if_neg c2] at HR
  by_cases c3 : d = 2
  · rw [if_pos c3] at HR
    have HR' := HR.out
    subst HR'
    rw [show (d == 4) = false by simp; omega] at e1
    rw [show (d == 2) = true by simp; omega] at e2
    rw [show (decide (2 ≤ p)) = false by simp; omega] at e3
    clear HR e4 e5 hm
    generalize qb d = b at e1 e2 ⊢
    generalize qb p = a at e3 ⊢
    go_enter Try.func18, Try.ntmps18
    go_wp2_with fail
    refine (parts_any a b w).mono ?_
    rintro e w' ⟨rfl, rfl⟩
    go_wp2
    go_ret
    exact ⟨rfl, rfl⟩
  rw [if_neg c3] at HR
  by_cases c4 : p = 4
  · rw [if_pos c4] at HR
    have HR' := HR.out
    subst HR'
    rw [show (d == 4) = false by simp; omega] at e1
    rw [show (d == 2) = false by simp; omega] at e2
    rw [show (p == 4) = true by simp; omega] at e4
    clear HR e3 e5 hm
    generalize qb d = b at e1 e2 ⊢
    generalize qb p = a at e4 ⊢
    go_enter Try.func18, Try.ntmps18
    go_wp2_with fail
    refine (parts_any a b w).mono ?_
    rintro e w' ⟨rfl, rfl⟩
    go_wp2
    go_ret
    exact ⟨rfl, rfl⟩
  rw [if_neg c4] at HR
  by_cases c5 : p = 2
  · rw [if_pos c5] at HR
    have HR' := HR.out
    subst HR'
    rw [show (d == 4) = false by simp; omega] at e1
    rw [show (d == 2) = false by simp; omega] at e2
    rw [show (p == 4) = false by simp; omega] at e4
    rw [show (p == 2) = true by simp; omega] at e5
    clear HR e3 hm
    generalize qb d = b at e1 e2 ⊢
    generalize qb p = a at e4 e5 ⊢
    go_enter Try.func18, Try.ntmps18
    go_wp2_with fail
    refine (parts_any a b w).mono ?_
    rintro e w' ⟨rfl, rfl⟩
    go_wp2
    go_ret
    exact ⟨rfl, rfl⟩
  rw [if_neg c5] at HR
  have HR' := HR.out
  subst HR'
  rw [show (d == 4) = false by simp; omega] at e1
  rw [show (d == 2) = false by simp; omega] at e2
  rw [show (p == 4) = false by simp; omega] at e4
  rw [show (p == 2) = false by simp; omega] at e5
  clear HR e3 hm
  generalize qb d = b at e1 e2 ⊢
  generalize qb p = a at e4 e5 ⊢
  go_enter Try.func18, Try.ntmps18
  go_wp2_with fail
  refine (parts_any a b w).mono ?_
  rintro e w' ⟨rfl, rfl⟩
  go_wp2
  go_ret
  exact ⟨rfl, rfl⟩
end Go.Proofs.Ytlkikaeboeaadaa
