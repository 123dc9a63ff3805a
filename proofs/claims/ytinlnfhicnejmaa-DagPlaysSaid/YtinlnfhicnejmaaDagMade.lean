/-
  CONTRACT OF bailifflaw16.made: some branch; and a branch that is made and taken in.
-/
import Derived.Test.YtinlnfhicnejmaaDagRunsW
import Derived.Test.YtinlnfhicnejmaaDagReach
import Derived.LoopN
namespace Go.Proofs.Ytinlnfhicnejmaa
open Go.RowKit
set_option linter.unusedVariables false

/-- Some branch, in new memory alone. -/
def SomeBr (w : World) (e : Ending) (w' : World) : Prop := ∃ a x y z : Int, e = .returned (.agg #[.int .i64 a, .int .i64 x, .int .i64 y, .int .i64 z]) ∧ Below w.heap.size w w'
theorem results_made {w : World} {g : Nat} {cs : Array Value} {tmps : Array Value} (h4 : tmps.getD 4 undef = .pointer (some ⟨g, 0, none⟩)) (hg : w.heap[g]? = some (.cells cs 57 (0, 0))) (hs : cs.size = 4) :
    (results Try.f37 tmps).run Try.prog w = .ok (.agg cs) w :=
  results_cell_row rfl _ _ g 57 cs (0, 0) _ h4 hg Try.underlying57 rfl (by rw [hs]; exact brInfo)
theorem build_one (q : Int) (w : World) : (Instr.build 57 #[(0, .int .i64 q)]).run Try.prog w = .ok (.agg #[.int .i64 q, .int .i64 0, .int .i64 0, .int .i64 0]) w := by kernel_rfl
set_option maxHeartbeats 1000000 in
theorem made_any (a x y z : Int) (raw : Bool) (n : Nat) (hn : n ≤ 2000) (w : World) :
    Calls Try.prog 37 #[.agg #[.int .i64 a, .int .i64 x, .int .i64 y, .int .i64 z, .bool raw], .int .i64 (n : Nat)] w (SomeBr w) := by
  have b1 := below_new w (.cells #[.int .i64 a, .int .i64 x, .int .i64 y, .int .i64 z, .bool raw] 69)
  cases raw
  · have hw3 : IntKind.i64.wrap ((n : Int) + 3) = (n : Int) + 3 := IntWalk.i64_in _ (by omega)
    have j0 := build_one
    have W0 := hide (fun w => within_any a 0 7 w (by omega) (by omega) (by omega))
    have W1 := hide (fun v w => within_any v 0 ((n : Int) + 3) w (by omega) (by omega) (by omega))
    have L0 := hide (fun v => (⟨within_lo v 0 ((n : Int) + 3) (by omega), within_hi v 0 ((n : Int) + 3) (by omega)⟩ : 0 ≤ within v 0 ((n : Int) + 3) ∧ within v 0 ((n : Int) + 3) ≤ (n : Int) + 3))
    generalize within a 0 7 = q at W0
    go_enter Try.func37, Try.ntmps37
    go_wp2_with fail
    refine (W0.out _).mono ?_
    rintro e w' ⟨rfl, rfl⟩
    go_wp2
    refine wp_loop_rounds 4 ?_
    rw [rounds_succ]
    go_wp2_with fail
    refine (W1.out x _).mono ?_
    rintro e w' ⟨rfl, rfl⟩
    have l0 := L0.out x
    generalize within x 0 ((n : Int) + 3) = q0 at l0 ⊢
    have s0 : IntKind.i64.wrap (q0 - 4) = q0 - 4 := IntWalk.i64_in _ (by omega)
    go_wp2
    rw [rounds_succ]
    go_wp2_with fail
    refine (W1.out y _).mono ?_
    rintro e w' ⟨rfl, rfl⟩
    have l1 := L0.out y
    generalize within y 0 ((n : Int) + 3) = q1 at l1 ⊢
    have s1 : IntKind.i64.wrap (q1 - 4) = q1 - 4 := IntWalk.i64_in _ (by omega)
    go_wp2
    rw [rounds_succ]
    go_wp2_with fail
    refine (W1.out z _).mono ?_
    rintro e w' ⟨rfl, rfl⟩
    have l2 := L0.out z
    generalize within z 0 ((n : Int) + 3) = q2 at l2 ⊢
    have s2 : IntKind.i64.wrap (q2 - 4) = q2 - 4 := IntWalk.i64_in _ (by omega)
    go_wp2
    rw [rounds_succ]
    go_wp2
    have e : (w.alloc (.cells #[.int .i64 a, .int .i64 x, .int .i64 y, .int .i64 z, .bool false] 69)).heap.size = w.heap.size + 1 := by simp
    have hg := heap_alloc2_new w (.cells #[.int .i64 a, .int .i64 x, .int .i64 y, .int .i64 z, .bool false] 69) (.cells #[.int .i64 q, .int .i64 (q0 - 4), .int .i64 (q1 - 4), .int .i64 (q2 - 4)] 57 (0, 0))
    have hb2 := below_on b1 (below_new _ (.cells #[.int .i64 q, .int .i64 (q0 - 4), .int .i64 (q1 - 4), .int .i64 (q2 - 4)] 57))
    have hb3 := below_new ((w.alloc (.cells #[.int .i64 a, .int .i64 x, .int .i64 y, .int .i64 z, .bool false] 69)).alloc (.cells #[.int .i64 q, .int .i64 (q0 - 4), .int .i64 (q1 - 4), .int .i64 (q2 - 4)] 57)) (.cells #[.int .i64 q, .int .i64 (q0 - 4), .int .i64 (q1 - 4), .int .i64 (q2 - 4)] 57)
    refine bodyPost_ret (results_made rfl ((hb3.block _ (by simp)).trans hg) rfl) rfl ?_
    exact ⟨q, q0 - 4, q1 - 4, q2 - 4, rfl, below_on hb2 hb3⟩
  · go_enter Try.func37, Try.ntmps37
    go_wp2
    have hg := heap_alloc_new (w.alloc (.cells #[.int .i64 a, .int .i64 x, .int .i64 y, .int .i64 z, .bool true] 69)) (.cells #[.int .i64 a, .int .i64 x, .int .i64 y, .int .i64 z] 57 (0, 0))
    have e : (w.alloc (.cells #[.int .i64 a, .int .i64 x, .int .i64 y, .int .i64 z, .bool true] 69)).heap.size = w.heap.size + 1 := by simp
    rw [e] at hg
    refine bodyPost_ret (results_made rfl hg rfl) rfl ?_
    exact ⟨a, x, y, z, rfl, below_on b1 (below_new _ _)⟩
end Go.Proofs.Ytinlnfhicnejmaa
