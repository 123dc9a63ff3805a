/-
  THE WALK OF bailifflaw2.SumTells: it returns true; only new memory is laid.
-/
import Derived.Test.YtdfbmlaehdgcdaaSumRunsW
import Derived.Test.YtdfbmlaehdgcdaaChainWalk
import Derived.Test.YtdfbmlaehdgcdaaBook
namespace Go.Proofs.Ytdfbmlaehdgcdaa
open Go.RowKit
set_option linter.unusedVariables false

set_option maxHeartbeats 400000 in
theorem sumTells_walk (x0 : BitVec 64) (a1 : Option Addr) (cap1 : Nat) (l1 : List UInt8) (w : World) (hl1 : l1.length ≤ cap1) (hm1 : cap1 ≤ maxLen) (s1 : Sl w w.heap.size a1 (vbytes l1)) :
    Calls Try.prog 6 #[.int .u64 (n64 x0), .slice a1 l1.length cap1] w fun e w' => e = .returned (.bool true) ∧ Below w.heap.size w w' := by
  unfold maxLen at hm1
  obtain ⟨n, l, hmn, hl, hln, hn, hn2⟩ := cut_at l1 300 300 rfl
  have hs := s1.takeBytes 300
  rw [← hl] at hs
  have HL := hide hl
  have HLN := hide hln
  clear hl hln s1
  go_enter Try.func6, Try.ntmps6
  go_wp2_with fail
  refine (roomy_any a1 cap1 n l HLN.out 7 w (by rw [HLN.out]; omega) hs).mono ?_
  rintro e w' ⟨rfl, rfl⟩
  have hb : Below w.heap.size w (w.alloc (.cells (vbytes (roomy l 7)).toArray 5)) := (Below.refl _ _).alloc (Nat.le_refl _) _
  have hs' := hs.below hb
  have hr := Sl.laid w (vbytes (roomy l 7)).toArray 5 (0, 0) (vbytes (roomy l 7)) rfl
  have hr2 := hr.takeBytes l.length
  rw [roomy_take] at hr2
  have hs2 := hs'.more (Nat.le_succ _)
  generalize w.alloc (.cells (vbytes (roomy l 7)).toArray 5) = w1 at hb hs' hr hr2 hs2 ⊢
  have hle : l.length ≤ 300 := by rw [HLN.out]; exact hn
  go_wp2_with fail
  refine (sum_any _ _ n l HLN.out _ _ (by omega) hr2).mono ?_
  rintro e w' ⟨rfl, rfl⟩
  go_wp2_with fail
  refine (refsum_any _ _ n l HLN.out _ _ (by omega) hs2).mono ?_
  rintro e w' ⟨rfl, rfl⟩
  go_wp2_with fail
  refine (chain_any _ _ _ n l HLN.out _ _ (by omega) hr2).mono ?_
  rintro e w' ⟨rfl, rfl⟩
  go_wp2_with fail
  refine (refchain_any _ _ _ n l HLN.out _ _ (by omega) hs2).mono ?_
  rintro e w' ⟨rfl, rfl⟩
  go_wp2_with fail
  refine (intact_any _ _ _ _ n _ l HLN.out (by rw [HLN.out]) 7 _ _ (by omega) (by rw [HLN.out]; omega) hr hs2).mono ?_
  rintro e w' ⟨rfl, nq, rfl⟩
  go_wp2_with fail
  refine (sumRuns_walk _).mono ?_
  rintro e w' ⟨rfl, hb2⟩
  go_wp2
  go_ret
  exact ⟨rfl, (below_drewN hb nq).trans (hb2.mono hb.size)⟩
end Go.Proofs.Ytdfbmlaehdgcdaa
