/-
  THE WALK OF bailifflaw16.DagRuns: it returns true; only new memory is laid.
-/
import Derived.Test.YtinlnfhicnejmaaDagSize2
namespace Go.Proofs.Ytinlnfhicnejmaa
open Go.RowKit
set_option linter.unusedVariables false

/-- A diagram that a law has made: nothing below it has turned. -/
def Own (w : World) (g most : Nat) (l : List Br) (w' : World) : Prop := Dags w' w.heap.size g most l ∧ Below w.heap.size w w'
theorem own_on {w w1 w2 : World} {g most : Nat} {l : List Br} (h : Own w g most l w1) (hb : Below w1.heap.size w1 w2) : Own w g most l w2 := ⟨dags_below h.1 hb, below_on h.2 hb⟩
theorem own_drn {w w1 w2 : World} {g most : Nat} {l : List Br} (h : Own w g most l w1) (hd : Drawn w1 w2) : Own w g most l w2 := ⟨dags_drawn h.1 hd, below_drawn h.2 hd⟩
theorem own_make {w w1 : World} {g most : Nat} {l : List Br} (a x y z : Int) (h : Own w g most l w1) :
    Calls Try.prog 32 #[.pointer (some ⟨g, 0, none⟩), .agg #[.int .i64 a, .int .i64 x, .int .i64 y, .int .i64 z]] w1 fun e w2 => e = .returned (.tuple #[.int .i64 (makeP most l (a, x, y, z)).1, .int .i64 (makeP most l (a, x, y, z)).2.1]) ∧ Own w g most (makeP most l (a, x, y, z)).2.2 w2 :=
  (make_any w.heap.size g most l a x y z w1 h.2.size h.1).mono fun e w2 hp => ⟨hp.1, hp.2.1, h.2.trans hp.2.2⟩
theorem new_own (most : Nat) (h1 : 1 ≤ most) (h2 : most ≤ 2000) (w : World) :
    Calls Try.prog 31 #[.int .i64 (most : Nat)] w fun e w' => e = .returned (.tuple #[.pointer (some ⟨w.heap.size, 0, none⟩), .int .i64 0]) ∧ Own w w.heap.size most [] w' :=
  (new_dag most h1 h2 w).mono fun e w' h => ⟨h.1, h.2.1, h.2.2⟩
/-- The two branches of chapter 16's runs. -/
def two : List Br := [(1, -1, -1, -2), (0, -1, 0, -2)]
theorem good_two : Good two := by
  intro i b h
  match i, h with
  | 0, h => simp [two] at h; subst h; decide
  | 1, h => simp [two] at h; subst h; decide
  | i + 2, h => simp [two] at h
set_option maxHeartbeats 1000000 in
theorem dagRuns_walk (w : World) :
    Calls Try.prog 10 #[] w fun e w' => e = .returned (.bool true) ∧ Below w.heap.size w w' := by
  go_enter Try.func10, Try.ntmps10
  go_wp2_with fail
  refine (new_own 2 (by decide) (by decide) w).mono ?_
  rintro e w1 ⟨rfl, ho⟩
  have H1 := hide ho
  clear ho
  generalize hg : w.heap.size = g at *
  go_wp2_with fail
  refine (br_any 1 (-1) (-1) (-2) w1).mono ?_
  rintro e w2 ⟨rfl, hb⟩
  have H2 := hide (own_on H1.out hb)
  clear hb H1
  simp only [brV]
  go_wp2_with fail
  refine (own_make 1 (-1) (-1) (-2) H2.out).mono ?_
  rw [show makeP 2 [] (1, -1, -1, -2) = (0, 0, [(1, -1, -1, -2)]) from by decide]
  rintro e w3 ⟨rfl, ho⟩
  have H3 := hide ho
  clear ho H2
  go_wp2_with fail
  refine (br_any 0 0 0 0 w3).mono ?_
  rintro e w4 ⟨rfl, hb⟩
  have H4 := hide (own_on H3.out hb)
  clear hb H3
  simp only [brV]
  go_wp2_with fail
  refine (own_make 0 0 0 0 H4.out).mono ?_
  rw [show makeP 2 [(1, -1, -1, -2)] (0, 0, 0, 0) = (0, 0, [(1, -1, -1, -2)]) from by decide]
  rintro e w5 ⟨rfl, ho⟩
  have H5 := hide ho
  clear ho H4
  go_wp2_with fail
  refine (br_any 0 (-1) 0 (-2) w5).mono ?_
  rintro e w6 ⟨rfl, hb⟩
  have H6 := hide (own_on H5.out hb)
  clear hb H5
  simp only [brV]
  go_wp2_with fail
  refine (own_make 0 (-1) 0 (-2) H6.out).mono ?_
  rw [show makeP 2 [(1, -1, -1, -2)] (0, -1, 0, -2) = (1, 0, two) from by decide]
  rintro e w7 ⟨rfl, ho⟩
  have H7 := hide (own_on ho (below_new w7 (.cells #[.int .i64 1, .int .i64 2] 3)))
  have HS := hide (Sl.laid w7 #[.int .i64 1, .int .i64 2] 3 (0, 0) (vints .i64 [1, 2]) rfl)
  clear ho H6
  go_wp2_with fail
  refine (walk_any _ g 2 two (some ⟨w7.heap.size, 0, none⟩) 2 2 [1, 2] rfl 1 _ _ (by decide) good_two H7.out.1 HS.out).mono ?_
  rw [show walkP two [1, 2] 1 = 1 from by decide]
  rintro e w8 ⟨rfl, hd⟩
  have H8 := hide (own_drn H7.out hd)
  clear hd H7 HS
  go_wp2_with fail
  refine (size_any _ g 2 two 1 20 2 w8 (by decide) (by unfold I64; decide) (by unfold I64; decide) (by decide) H8.out.1).mono ?_
  rintro e w9 ⟨rfl, hb⟩
  have H9 := hide (own_on H8.out hb)
  clear hb H8
  go_wp2_with fail
  refine (br_any 2 (-1) (-2) (-3) w9).mono ?_
  rintro e w10 ⟨rfl, hb⟩
  have H10 := hide (own_on H9.out hb)
  clear hb H9
  simp only [brV]
  go_wp2_with fail
  refine (own_make 2 (-1) (-2) (-3) H10.out).mono ?_
  rw [show makeP 2 two (2, -1, -2, -3) = (0, 6, two) from by decide]
  rintro e w11 ⟨rfl, ho⟩
  have H11 := hide ho
  clear ho H10
  go_wp2_with fail
  refine (len_any _ g 2 two w11 H11.out.1).mono ?_
  rintro e w12 ⟨rfl, rfl⟩
  rw [show ((two.length : Nat) : Int) = 2 from rfl]
  go_wp2
  go_ret
  exact ⟨rfl, hg ▸ H11.out.2⟩
end Go.Proofs.Ytinlnfhicnejmaa
