/-
  CONTRACTS OF Dag.Branch, Dag.Size.
-/
import Derived.Test.YtinlnfhicnejmaaDagWalk
import Derived.Maps.Own
import Derived.Maps.OwnSet
namespace Go.Proofs.Ytinlnfhicnejmaa
open Go.RowKit
set_option linter.unusedVariables false

theorem brInfo : (Try.prog.info? 57).map (·.size) = some 4 := by kernel_rfl
theorem results_branch {w : World} {g : Nat} {cs : Array Value} {tmps : Array Value} {v : Value} (h4 : tmps.getD 4 undef = .pointer (some ⟨g, 0, none⟩)) (h5 : tmps.getD 5 undef = v) (hg : w.heap[g]? = some (.cells cs 57 (0, 0))) (hs : cs.size = 4) :
    (results Try.f41 tmps).run Try.prog w = .ok (.tuple #[.agg cs, v]) w := by
  rw [results_cell_tmp rfl, h4, h5]
  simp only [asAddr, Sem.run_pure, Result.andThen_ok]
  rw [run_loadVar_row w g 57 57 cs (0, 0) _ hg Try.underlying57 rfl (by rw [hs]; exact brInfo)]
  rfl
theorem build_zero (w : World) : (Instr.build 57 #[]).run Try.prog w = .ok (.agg #[.int .i64 0, .int .i64 0, .int .i64 0, .int .i64 0]) w := by kernel_rfl
theorem branch_in (lo g most : Nat) (l : List Br) (k : Nat) (hk : k < l.length) (w : World) (h : Dags w lo g most l) :
    Calls Try.prog 41 #[.pointer (some ⟨g, 0, none⟩), .int .i64 (k : Nat)] w fun e w' => e = .returned (.tuple #[brV l[k], .bool true]) ∧ Below w.heap.size w w' := by
  obtain ⟨A, c, c0, c1, hs, hc, hm, h20⟩ := dags_open h
  have hgl := dags_lt h
  obtain ⟨b, off, rfl, hb, x0, x1, x2, x3⟩ := hs.branch hk
  have hk1 : (k : Int) < (l.length : Int) := by omega
  have hk2 : ¬ (l.length : Int) ≤ (k : Int) := by omega
  have hk3 : ¬ (k : Int) < 0 := by omega
  have hb1 := below_new w (.cells #[.int .i64 0, .int .i64 0, .int .i64 0, .int .i64 0] 57)
  have d1 := (hb1.cell hgl).trans c1
  have y0 := (hb1.cell hb).trans x0
  have y1 := (hb1.cell hb).trans x1
  have y2 := (hb1.cell hb).trans x2
  have y3 := (hb1.cell hb).trans x3
  have HB := hide hb1
  generalize l[k] = p at *
  obtain ⟨p0, p1, p2, p3⟩ := p
  clear h hs c0 c1 x0 x1 x2 x3 hb hgl hb1
  simp only at y0 y1 y2 y3
  go_enter Try.func41, Try.ntmps41
  go_wp2
  refine bodyPost_ret (results_branch rfl rfl (heap_alloc_new w _) rfl) rfl ?_
  exact ⟨rfl, below_new w _⟩
theorem branch_out (lo g most : Nat) (l : List Br) (i : Int) (hi : i < 0 ∨ (l.length : Int) ≤ i) (w : World) (h : Dags w lo g most l) :
    Calls Try.prog 41 #[.pointer (some ⟨g, 0, none⟩), .int .i64 i] w fun e w' => e = .returned (.tuple #[brV (0, 0, 0, 0), .bool false]) ∧ Below w.heap.size w w' := by
  obtain ⟨A, c, c0, c1, hs, hc, hm, h20⟩ := dags_open h
  have hgl := dags_lt h
  have d1 := ((below_new w (.cells #[.int .i64 0, .int .i64 0, .int .i64 0, .int .i64 0] 57)).cell hgl).trans c1
  have hbd := build_zero
  clear h hs c0 c1 hgl
  by_cases hn : i < 0
  · clear hi
    go_enter Try.func41, Try.ntmps41
    go_wp2
    refine bodyPost_ret (results_branch rfl rfl (heap_alloc_new w _) rfl) rfl ?_
    exact ⟨rfl, below_new w _⟩
  · have h2 : (l.length : Int) ≤ i := by omega
    clear hi
    go_enter Try.func41, Try.ntmps41
    go_wp2
    refine bodyPost_ret (results_branch rfl rfl (heap_alloc_new w _) rfl) rfl ?_
    exact ⟨rfl, below_new w _⟩
end Go.Proofs.Ytinlnfhicnejmaa
