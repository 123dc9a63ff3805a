/-
  CONTRACTS OF mark.Name, mark.Right AND bailifflaw4.six.
-/
import Derived.Test.YtlkikaeboeaadaaMarkOver0
namespace Go.Proofs.Ytlkikaeboeaadaa
open Go.RowKit
set_option linter.unusedVariables false

theorem mark_eq (p d i j : Nat) (hm : QP (p, d)) (hi : i ≤ 4) (hj : j ≤ 4) : ((FloatKind.f64.format.order (qb p) (qb i) == some .eq) && (FloatKind.f64.format.order (qb d) (qb j) == some .eq)) = ((p, d) == (i, j)) := by
  rw [q_eq p i hm.1 hi, q_eq d j hm.2 hj, Bool.eq_iff_iff]
  simp
def nameP (m : Nat × Nat) : ByteArray :=
  if m = (0, 0) then ⟨#[78, 111, 116, 65, 112, 112, 108, 105, 99, 97, 98, 108, 101]⟩ else
  if m = (4, 0) then ⟨#[80, 101, 114, 109, 105, 116]⟩ else
  if m = (0, 4) then ⟨#[68, 101, 110, 121]⟩ else
  if m = (2, 0) then ⟨#[73, 110, 100, 101, 116, 101, 114, 109, 105, 110, 97, 116, 101, 123, 80, 125]⟩ else
  if m = (0, 2) then ⟨#[73, 110, 100, 101, 116, 101, 114, 109, 105, 110, 97, 116, 101, 123, 68, 125]⟩ else
  if m = (2, 2) then ⟨#[73, 110, 100, 101, 116, 101, 114, 109, 105, 110, 97, 116, 101, 123, 68, 80, 125]⟩ else
  ⟨#[]⟩

set_option maxHeartbeats 1000000 in
theorem name_any (m : Nat × Nat) (hm : QP m) (w : World) : Calls Try.prog 20 #[mk m.1 m.2] w fun e w' => e = .returned (.string (nameP m)) ∧ w = w' := by
  obtain ⟨p, d⟩ := m
  have e0 : ((FloatKind.f64.format.order (qb p) 0 == some .eq) && (FloatKind.f64.format.order (qb d) 0 == some .eq)) = ((p, d) == (0, 0)) := mark_eq p d 0 0 hm (by decide) (by decide)
  have e1 : ((FloatKind.f64.format.order (qb p) 4607182418800017408 == some .eq) && (FloatKind.f64.format.order (qb d) 0 == some .eq)) = ((p, d) == (4, 0)) := mark_eq p d 4 0 hm (by decide) (by decide)
  have e2 : ((FloatKind.f64.format.order (qb p) 0 == some .eq) && (FloatKind.f64.format.order (qb d) 4607182418800017408 == some .eq)) = ((p, d) == (0, 4)) := mark_eq p d 0 4 hm (by decide) (by decide)
  have e3 : ((FloatKind.f64.format.order (qb p) 4602678819172646912 == some .eq) && (FloatKind.f64.format.order (qb d) 0 == some .eq)) = ((p, d) == (2, 0)) := mark_eq p d 2 0 hm (by decide) (by decide)
  have e4 : ((FloatKind.f64.format.order (qb p) 0 == some .eq) && (FloatKind.f64.format.order (qb d) 4602678819172646912 == some .eq)) = ((p, d) == (0, 2)) := mark_eq p d 0 2 hm (by decide) (by decide)
  have e5 : ((FloatKind.f64.format.order (qb p) 4602678819172646912 == some .eq) && (FloatKind.f64.format.order (qb d) 4602678819172646912 == some .eq)) = ((p, d) == (2, 2)) := mark_eq p d 2 2 hm (by decide) (by decide)
  show Calls Try.prog 20 #[.complex .f64 (qb p) (qb d)] w _
  generalize hR : nameP (p, d) = R
  have HR := hide hR
  clear hR hm
  unfold nameP at HR
  generalize qb p = a at e0 e1 e2 e3 e4 e5 ⊢
  generalize qb d = b at e0 e1 e2 e3 e4 e5 ⊢
  by_cases c0 : (p, d) = (0, 0)
  · rw [if_pos c0] at HR
    have HR' := HR.out
    subst HR'
    rw [show ((p, d) == (0, 0)) = true from beq_iff_eq.2 c0] at e0
    clear HR c0 e1 e2 e3 e4 e5
    go_enter Try.func20, Try.ntmps20
    go_wp2
    go_ret
    exact ⟨rfl, rfl⟩
  rw [if_neg c0] at HR
  by_cases c1 : (p, d) = (4, 0)
  · rw [if_pos c1] at HR
    have HR' := HR.out
    subst HR'
    rw [show ((p, d) == (4, 0)) = true from beq_iff_eq.2 c1] at e1
    rw [show ((p, d) == (0, 0)) = false from beq_eq_false_iff_ne.2 c0] at e0
    clear HR c0 c1 e2 e3 e4 e5
    go_enter Try.func20, Try.ntmps20
    go_wp2
    go_ret
    exact ⟨rfl, rfl⟩
  rw [if_neg c1] at HR
  by_cases c2 : (p, d) = (0, 4)
  · rw [if_pos c2] at HR
    have HR' := HR.out
    subst HR'
    rw [show ((p, d) == (0, 4)) = true from beq_iff_eq.2 c2] at e2
    rw [show ((p, d) == (0, 0)) = false from beq_eq_false_iff_ne.2 c0] at e0
    rw [show ((p, d) == (4, 0)) = false from beq_eq_false_iff_ne.2 c1] at e1
    clear HR c0 c1 c2 e3 e4 e5
    go_enter Try.func20, Try.ntmps20
    go_wp2
    go_ret
    exact ⟨rfl, rfl⟩
  rw [if_neg c2] at HR
  by_cases c3 : (p, d) = (2, 0)
  · rw [if_pos c3] at HR
    have HR' := HR.out
    subst HR'
    rw [show ((p, d) == (2, 0)) = true from beq_iff_eq.2 c3] at e3
    rw [show ((p, d) == (0, 0)) = false from beq_eq_false_iff_ne.2 c0] at e0
    rw [show ((p, d) == (4, 0)) = false from beq_eq_false_iff_ne.2 c1] at e1
    rw [show ((p, d) == (0, 4)) = false from beq_eq_false_iff_ne.2 c2] at e2
    clear HR c0 c1 c2 c3 e4 e5
    go_enter Try.func20, Try.ntmps20
    go_wp2
    go_ret
    exact ⟨rfl, rfl⟩
  rw [if_neg c3] at HR
  by_cases c4 : (p, d) = (0, 2)
  · rw [if_pos c4] at HR
    have HR' := HR.out
    subst HR'
    rw [show ((p, d) == (0, 2)) = true from beq_iff_eq.2 c4] at e4
    rw [show ((p, d) == (0, 0)) = false from beq_eq_false_iff_ne.2 c0] at e0
    rw [show ((p, d) == (4, 0)) = false from beq_eq_false_iff_ne.2 c1] at e1
    rw [show ((p, d) == (0, 4)) = false from beq_eq_false_iff_ne.2 c2] at e2
    rw [show ((p, d) == (2, 0)) = false from beq_eq_false_iff_ne.2 c3] at e3
    clear HR c0 c1 c2 c3 c4 e5
    go_enter Try.func20, Try.ntmps20
    go_wp2
    go_ret
    exact ⟨rfl, rfl⟩
  rw [if_neg c4] at HR
  by_cases c5 : (p, d) = (2, 2)
  · rw [if_pos c5] at HR
    have HR' := HR.out
    subst HR'
    rw [show ((p, d) == (2, 2)) = true from beq_iff_eq.2 c5] at e5
    rw [show ((p, d) == (0, 0)) = false from beq_eq_false_iff_ne.2 c0] at e0
    rw [show ((p, d) == (4, 0)) = false from beq_eq_false_iff_ne.2 c1] at e1
    rw [show ((p, d) == (0, 4)) = false from beq_eq_false_iff_ne.2 c2] at e2
    rw [show ((p, d) == (2, 0)) = false from beq_eq_false_iff_ne.2 c3] at e3
    rw [show ((p, d) == (0, 2)) = false from beq_eq_false_iff_ne.2 c4] at e4
    clear HR c0 c1 c2 c3 c4 c5 
    go_enter Try.func20, Try.ntmps20
    go_wp2
    go_ret
    exact ⟨rfl, rfl⟩
  rw [if_neg c5] at HR
  have HR' := HR.out
  subst HR'
  rw [show ((p, d) == (0, 0)) = false from beq_eq_false_iff_ne.2 c0] at e0
  rw [show ((p, d) == (4, 0)) = false from beq_eq_false_iff_ne.2 c1] at e1
  rw [show ((p, d) == (0, 4)) = false from beq_eq_false_iff_ne.2 c2] at e2
  rw [show ((p, d) == (2, 0)) = false from beq_eq_false_iff_ne.2 c3] at e3
  rw [show ((p, d) == (0, 2)) = false from beq_eq_false_iff_ne.2 c4] at e4
  rw [show ((p, d) == (2, 2)) = false from beq_eq_false_iff_ne.2 c5] at e5
  clear HR c0 c1 c2 c3 c4 c5
  go_enter Try.func20, Try.ntmps20
  go_wp2
  go_ret
  exact ⟨rfl, rfl⟩

/-- The six decisions by number. -/
def sixP : Nat → Nat × Nat
  | 0 => (0, 0)
  | 1 => (4, 0)
  | 2 => (0, 4)
  | 3 => (2, 0)
  | 4 => (0, 2)
  | _ => (2, 2)
theorem sixP_q : ∀ k : Nat, QP (sixP k)
  | 0 | 1 | 2 | 3 | 4 => ⟨by decide, by decide⟩
  | _ + 5 => ⟨by show 2 ≤ 4; decide, by show 2 ≤ 4; decide⟩
theorem six_all (n : Int) : ∃ k : Nat, k ≤ 5 ∧ ∀ w : World, Calls Try.prog 21 #[.int .i64 n] w fun e w' => e = .returned (mk (sixP k).1 (sixP k).2) ∧ w = w' := by
  obtain ⟨K, hKe⟩ : ∃ K : Nat, within n 0 5 = (K : Int) := ⟨_, (Int.toNat_of_nonneg (within_lo n 0 5 (by omega))).symm⟩
  have hK : K ≤ 5 := by have := within_hi n 0 5 (by omega); omega
  refine ⟨K, hK, fun w => ?_⟩
  have hW := within_any n 0 5 w (by omega) (by omega) (by omega)
  rw [hKe] at hW
  have HW := hide hW
  clear hW hKe
  go_enter Try.func21, Try.ntmps21
  go_wp2_with fail
  refine HW.out.mono ?_
  rintro e w' ⟨rfl, rfl⟩
  clear HW
  obtain rfl | rfl | rfl | rfl | rfl | rfl : K = 0 ∨ K = 1 ∨ K = 2 ∨ K = 3 ∨ K = 4 ∨ K = 5 := by omega
  all_goals
    go_wp2
    go_ret
    exact ⟨rfl, rfl⟩
theorem right_any (m : Nat × Nat) (hm : QP m) (w : World) : Calls Try.prog 22 #[mk m.1 m.2] w fun e w' => e = .returned (.bool (!(nameP m).toList.isEmpty)) ∧ w = w' := by
  have hN := hide (name_any m hm w)
  unfold mk at hN ⊢
  generalize qb m.1 = a at hN ⊢
  generalize qb m.2 = b at hN ⊢
  generalize nameP m = N at hN ⊢
  clear hm
  go_enter Try.func22, Try.ntmps22
  go_wp2_with fail
  refine hN.out.mono ?_
  rintro e w' ⟨rfl, rfl⟩
  go_wp2
  go_ret
  exact ⟨rfl, rfl⟩
end Go.Proofs.Ytlkikaeboeaadaa
