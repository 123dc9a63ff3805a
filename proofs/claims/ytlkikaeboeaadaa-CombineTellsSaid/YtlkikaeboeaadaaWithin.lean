/-
  CONTRACT OF bailiffbook.Within (as in Book, for seats that hold no more of that package).
-/
import Derived.Test.YtlkikaeboeaadaaRows
import Derived.Test.YtlkikaeboeaadaaBase
namespace Go.Proofs.Ytlkikaeboeaadaa
open Go.RowKit

/-- A number brought into lo .. hi. -/
def within (n lo hi : Int) : Int := lo + n % (hi - lo + 1)
theorem within_lo (n lo hi : Int) (h : lo ≤ hi) : lo ≤ within n lo hi := by
  unfold within; have := Int.emod_nonneg n (show hi - lo + 1 ≠ 0 by omega); omega
theorem within_hi (n lo hi : Int) (h : lo ≤ hi) : within n lo hi ≤ hi := by
  unfold within; have := Int.emod_lt_of_pos n (show 0 < hi - lo + 1 by omega); omega

theorem within_any (n lo hi : Int) (w : World) (h1 : 0 ≤ lo) (h2 : lo ≤ hi) (h3 : hi ≤ 1000000) :
    Calls Try.prog 31 #[.int .i64 n, .int .i64 lo, .int .i64 hi] w fun e w' => e = .returned (.int .i64 (within n lo hi)) ∧ w = w' := by
  have hm := Int.tmod_lt_of_pos n (show 0 < hi - lo + 1 by omega)
  have hm2 : -(hi - lo + 1) < n.tmod (hi - lo + 1) := by have := Int.lt_tmod_of_pos n (show 0 < hi - lo + 1 by omega); omega
  have hme := hide (Int.tmod_eq_emod (a := n) (b := hi - lo + 1))
  by_cases h0 : n.tmod (hi - lo + 1) < 0
  · have he : within n lo hi = lo + (n.tmod (hi - lo + 1) + hi - lo + 1) := by
      unfold within
      have := Int.emod_nonneg n (show hi - lo + 1 ≠ 0 by omega)
      have := Int.emod_lt_of_pos n (show 0 < hi - lo + 1 by omega)
      have h4 := hme.out
      split at h4
      · omega
      · rw [h4]; omega
    have He := hide he
    clear hme he
    go_enter Try.func31, Try.ntmps31
    go_wp2
    go_ret
    exact ⟨by rw [He.out]; rfl, rfl⟩
  · have he : within n lo hi = lo + n.tmod (hi - lo + 1) := by
      unfold within
      have := Int.emod_nonneg n (show hi - lo + 1 ≠ 0 by omega)
      have := Int.emod_lt_of_pos n (show 0 < hi - lo + 1 by omega)
      have h4 := hme.out
      split at h4
      · omega
      · exfalso
        omega
    have He := hide he
    clear hme he
    go_enter Try.func31, Try.ntmps31
    go_wp2
    go_ret
    exact ⟨by rw [He.out]; rfl, rfl⟩
end Go.Proofs.Ytlkikaeboeaadaa
