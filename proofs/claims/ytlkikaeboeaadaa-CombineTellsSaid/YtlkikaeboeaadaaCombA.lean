/-
  CONTRACTS OF package combine's small functions: applies, sure, Step, and of slices.IndexFunc, Index, Contains at marks.
-/
import Derived.Test.YtlkikaeboeaadaaMarkRef
import Derived.Test.YtlkikaeboeaadaaWithin
import Derived.Outline
namespace Go.Proofs.Ytlkikaeboeaadaa
open Go.RowKit
set_option linter.unusedVariables false

/-- Marks as cells. -/
def vm (l : List (Nat × Nat)) : List Value := l.map fun m => mk m.1 m.2
theorem vm_length (l : List (Nat × Nat)) : (vm l).length = l.length := by simp [vm]
theorem vm_at (l : List (Nat × Nat)) (i : Nat) : (vm l)[i]? = (l[i]?).map fun m => mk m.1 m.2 := by simp [vm]
theorem vm_append (l m : List (Nat × Nat)) : vm (l ++ m) = vm l ++ vm m := by simp [vm]
theorem vm_take (l : List (Nat × Nat)) (n : Nat) : (vm l).take n = vm (l.take n) := by simp [vm, List.map_take]
theorem vm_drop (l : List (Nat × Nat)) (n : Nat) : (vm l).drop n = vm (l.drop n) := by simp [vm, List.map_drop]
theorem Sl.mark {w : World} {B : Nat} {a : Option Addr} {l : List (Nat × Nat)} {i : Nat} (h : Sl w B a (vm l)) (hi : i < l.length) :
    ∃ b off, a = some ⟨b, off, none⟩ ∧ b < B ∧ w.cell? ⟨b, off + i, none⟩ = some (.complex .f64 (qb l[i].1) (qb l[i].2)) :=
  h.at (by rw [vm_at]; simp [hi, mk])

theorem applies_core (a b : Nat) (S : Bool) (w : World) (e0 : ((FloatKind.f64.format.order a 0 == some .eq) && (FloatKind.f64.format.order b 0 == some .eq)) = S) :
    Calls Try.prog 47 #[.complex .f64 a b] w fun e w' => e = .returned (.bool (!S)) ∧ w = w' := by
  rcases S with _ | _
  all_goals
    go_enter Try.func47, Try.ntmps47
    go_wp2
    go_ret
    exact ⟨rfl, rfl⟩
theorem sure_core (a b : Nat) (S0 S1 S2 : Bool) (w : World) (e0 : ((FloatKind.f64.format.order a 0 == some .eq) && (FloatKind.f64.format.order b 0 == some .eq)) = S0)
    (e1 : ((FloatKind.f64.format.order a 4607182418800017408 == some .eq) && (FloatKind.f64.format.order b 0 == some .eq)) = S1) (e2 : ((FloatKind.f64.format.order a 0 == some .eq) && (FloatKind.f64.format.order b 4607182418800017408 == some .eq)) = S2) :
    Calls Try.prog 48 #[.complex .f64 a b] w fun e w' => e = .returned (.bool (S0 || S1 || S2)) ∧ w = w' := by
  rcases S0 with _ | _ <;> rcases S1 with _ | _ <;> rcases S2 with _ | _
  all_goals
    go_enter Try.func48, Try.ntmps48
    go_wp2
    go_ret
    exact ⟨rfl, rfl⟩
theorem step_join (k : Int) (hk : k = 1 ∨ k = 2 ∨ k = 5 ∨ k = 6) (a1 a2 b1 b2 r1 r2 : Nat) (w : World) (h : Hid (Ans 17 #[.complex .f64 a1 a2, .complex .f64 b1 b2] (.complex .f64 r1 r2))) :
    Calls Try.prog 33 #[.int .i64 k, .complex .f64 a1 a2, .complex .f64 b1 b2] w fun e w' => e = .returned (.complex .f64 r1 r2) ∧ w = w' := by
  rcases hk with rfl | rfl | rfl | rfl
  all_goals
    go_enter Try.func33, Try.ntmps33
    go_wp2_with fail
    refine (h.out w).mono ?_
    rintro e w' ⟨rfl, rfl⟩
    go_wp2
    go_ret
    exact ⟨rfl, rfl⟩
theorem step_first (a1 a2 b1 b2 : Nat) (X : Bool) (w : World) (e0 : ((FloatKind.f64.format.order a1 0 == some .eq) && (FloatKind.f64.format.order a2 0 == some .eq)) = X) :
    Calls Try.prog 33 #[.int .i64 3, .complex .f64 a1 a2, .complex .f64 b1 b2] w fun e w' => e = .returned (bif X then .complex .f64 b1 b2 else .complex .f64 a1 a2) ∧ w = w' := by
  rcases X with _ | _
  all_goals
    go_enter Try.func33, Try.ntmps33
    go_wp2
    go_ret
    exact ⟨rfl, rfl⟩
theorem step_only (a1 a2 b1 b2 : Nat) (X Y : Bool) (w : World) (e0 : ((FloatKind.f64.format.order a1 0 == some .eq) && (FloatKind.f64.format.order a2 0 == some .eq)) = X) (e1 : ((FloatKind.f64.format.order b1 0 == some .eq) && (FloatKind.f64.format.order b2 0 == some .eq)) = Y) :
    Calls Try.prog 33 #[.int .i64 4, .complex .f64 a1 a2, .complex .f64 b1 b2] w fun e w' => e = .returned (bif X then .complex .f64 b1 b2 else bif Y then .complex .f64 a1 a2 else .complex .f64 4602678819172646912 4602678819172646912) ∧ w = w' := by
  rcases X with _ | _ <;> rcases Y with _ | _
  all_goals
    go_enter Try.func33, Try.ntmps33
    go_wp2
    go_ret
    exact ⟨rfl, rfl⟩
end Go.Proofs.Ytlkikaeboeaadaa
