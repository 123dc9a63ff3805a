/-
  THE WALK OF bailifflaw4.MarkRuns: it returns true; nothing turns.
-/
import Derived.Test.YtlkikaeboeaadaaMarkName
namespace Go.Proofs.Ytlkikaeboeaadaa
open Go.RowKit
set_option linter.unusedVariables false

set_option maxHeartbeats 1000000 in
theorem markRuns_still (w : World) : Calls Try.prog 3 #[] w fun e w' => e = .returned (.bool true) ∧ w = w' := by
  have o1 : (FloatKind.f64.format.order 4607182418800017408 4607182418800017408 == some .eq) = true := by decide +kernel
  have o2 : (FloatKind.f64.format.order 4602678819172646912 4602678819172646912 == some .eq) = true := by decide +kernel
  have o3 : (FloatKind.f64.format.order 0 0 == some .eq) = true := by decide +kernel
  have hj1 : Hid (Calls Try.prog 17 #[Value.complex .f64 4607182418800017408 0, Value.complex .f64 0 4602678819172646912] w fun e w' => e = .returned (Value.complex .f64 4607182418800017408 4602678819172646912) ∧ w = w') := join_any (4, 0) (0, 2) ⟨by decide, by decide⟩ ⟨by decide, by decide⟩ w
  have hv1 : Hid (Calls Try.prog 18 #[Value.complex .f64 4607182418800017408 4602678819172646912] w fun e w' => e = .returned (Value.complex .f64 4602678819172646912 4602678819172646912) ∧ w = w') := over_any (4, 2) ⟨by decide, by decide⟩ w
  have hj2 : Hid (Calls Try.prog 17 #[Value.complex .f64 4607182418800017408 0, Value.complex .f64 4602678819172646912 0] w fun e w' => e = .returned (Value.complex .f64 4607182418800017408 0) ∧ w = w') := join_any (4, 0) (2, 0) ⟨by decide, by decide⟩ ⟨by decide, by decide⟩ w
  have hv2 : Hid (Calls Try.prog 18 #[Value.complex .f64 4607182418800017408 0] w fun e w' => e = .returned (Value.complex .f64 4607182418800017408 0) ∧ w = w') := over_any (4, 0) ⟨by decide, by decide⟩ w
  have ht : Hid (Calls Try.prog 19 #[Value.complex .f64 0 4602678819172646912] w fun e w' => e = .returned (Value.complex .f64 4602678819172646912 0) ∧ w = w') := turn_any (0, 2) w
  have hn : Hid (Calls Try.prog 20 #[Value.complex .f64 4602678819172646912 4602678819172646912] w fun e w' => e = .returned (.string ⟨#[73, 110, 100, 101, 116, 101, 114, 109, 105, 110, 97, 116, 101, 123, 68, 80, 125]⟩) ∧ w = w') := name_any (2, 2) ⟨by decide, by decide⟩ w
  go_enter Try.func3, Try.ntmps3
  go_wp2_with fail
  refine hj1.out.mono ?_
  rintro e w' ⟨rfl, rfl⟩
  go_wp2_with fail
  refine hv1.out.mono ?_
  rintro e w' ⟨rfl, rfl⟩
  go_wp2_with fail
  refine hj2.out.mono ?_
  rintro e w' ⟨rfl, rfl⟩
  go_wp2_with fail
  refine hv2.out.mono ?_
  rintro e w' ⟨rfl, rfl⟩
  go_wp2_with fail
  refine ht.out.mono ?_
  rintro e w' ⟨rfl, rfl⟩
  go_wp2_with fail
  refine hn.out.mono ?_
  rintro e w' ⟨rfl, rfl⟩
  go_wp2
  go_ret
  exact ⟨rfl, rfl⟩
theorem markRuns_walk (w : World) : Calls Try.prog 3 #[] w fun e w' => e = .returned (.bool true) ∧ Below w.heap.size w w' :=
  (markRuns_still w).mono fun _ _ h => ⟨h.1, by rw [← h.2]; exact Below.refl _ _⟩
end Go.Proofs.Ytlkikaeboeaadaa
