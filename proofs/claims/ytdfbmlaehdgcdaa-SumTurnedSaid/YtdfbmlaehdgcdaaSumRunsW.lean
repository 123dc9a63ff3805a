/-
  THE WALK OF bailifflaw2.SumRuns: it returns true; only new memory is laid.
-/
import Derived.Test.YtdfbmlaehdgcdaaSumWalk
import Derived.Lib.SlBytesConst
namespace Go.Proofs.Ytdfbmlaehdgcdaa
open Go.RowKit
/-- The nine digits as bytes. -/
def digits : List UInt8 := [49, 50, 51, 52, 53, 54, 55, 56, 57]
theorem sum_digits : n32 (Crc.sum (digits.map (·.toBitVec))) = 3421780262 := by
  rw [show digits.map (·.toBitVec) = [49, 50, 51, 52, 53, 54, 55, 56, 57] from rfl, Crc.sum_digits]; rfl

set_option maxHeartbeats 400000 in
theorem sumRuns_walk (w : World) :
    Calls Try.prog 3 #[] w fun e w' => e = .returned (.bool true) ∧ Below w.heap.size w w' := by
  have kc := fun (w : World) (C : Array Value) (n c : Nat) => Lib.run_convert_bytes_const (P := Try.prog) w 24 5 C n c Try.underlying24 Try.underlying5
  go_enter Try.func3, Try.ntmps3
  go_wp2_with fail
  have h1 := sum_any none 0 0 [] rfl w w.heap.size (by simp) Sl.nil
  rw [show Crc.sum (([] : List UInt8).map (·.toBitVec)) = 0#32 from Crc.sum_nil] at h1
  refine h1.mono ?_
  rintro e w' ⟨rfl, rfl⟩
  have hn : n32 0#32 = 0 := rfl
  go_wp2_with fail
  refine (sum_any (some ⟨w.heap.size, 0, none⟩) 9 9 digits rfl _ _ (by decide) (Sl.laid w _ 5 _ (vbytes digits) rfl)).mono ?_
  rintro e w' ⟨rfl, rfl⟩
  have hd := sum_digits
  go_wp2
  go_ret
  exact ⟨rfl, (Below.refl _ _).alloc (Nat.le_refl _) _⟩
end Go.Proofs.Ytdfbmlaehdgcdaa
