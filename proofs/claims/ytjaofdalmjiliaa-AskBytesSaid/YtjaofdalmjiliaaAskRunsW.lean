/-
  THE WALK OF bailifflaw11.AskRuns: it returns true; only new memory is laid.
-/
import Derived.Test.YtjaofdalmjiliaaPkNum2
import Derived.LoopN
import Derived.Test.YtjaofdalmjiliaaBookS
namespace Go.Proofs.Ytjaofdalmjiliaa
open Go.RowKit
set_option linter.unusedVariables false

theorem below_on {w0 w w' : World} (h : Below w0.heap.size w0 w) (k : Below w.heap.size w w') : Below w0.heap.size w0 w' := h.trans (k.mono h.size)
theorem below_drawn {B : Nat} {w0 w w' : World} (h : Below B w0 w) (k : Drawn w w') : Below B w0 w' := by
  obtain ⟨n, rfl⟩ := k; exact ⟨h.os, h.tape, h.output, h.size, h.block⟩
theorem below_new (w : World) (o : Obj) : Below w.heap.size w (w.alloc o) := (Below.refl _ _).alloc (Nat.le_refl _) _
theorem new_sl (w : World) (xs : List UInt8) : Sl (w.alloc (.cells (vbytes xs).toArray 5)) (w.alloc (.cells (vbytes xs).toArray 5)).heap.size (some ⟨w.heap.size, 0, none⟩) (vbytes xs) := by
  have h : (w.alloc (.cells (vbytes xs).toArray 5)).heap.size = w.heap.size + 1 := by simp
  rw [h]
  exact Sl.laid w _ 5 _ _ rfl
theorem same_lit {w : World} {v : Value} {n : Nat} {l m : List UInt8} {B : Nat} (h : w.ownsRow B 5 1 v l.length (vbytes l)) (hl : l.length ≤ 1000000) (hm : m.length = n) (hn : n ≤ 1000000) (a : Option Addr) (c : Nat) (hs : Sl w w.heap.size a (vbytes m)) :
    Calls Try.prog 9 #[v, .slice a n c] w (Quiet (.bool (sameB l m)) w) := by
  obtain ⟨A, c', rfl, hnc, hsl, hlo⟩ := own_slice h
  exact same_any A a c' c _ _ l m rfl hm w w.heap.size (by omega) (by omega) hsl hs
theorem numP_0 : numP 0 = [0] := by
  show vint 0 = _; rw [vint_small (by decide)]; rfl
theorem index_none (w : World) (f : Value) : Calls Try.prog 43 #[.slice none 0 0, f] w fun e w' => e = .returned (.int .i64 (-1)) ∧ w = w' := by
  go_enter Try.func43, Try.ntmps43
  go_wp2
  refine wp_loop_rounds 1 ?_
  rw [rounds_succ]
  go_wp2
  go_ret
  exact ⟨rfl, rfl⟩
theorem place_none (w : World) (cat : Int) (s : ByteArray) : Calls Try.prog 22 #[.slice none 0 0, .int .i64 cat, .string s] w fun e w' => e = .returned (.int .i64 (-1)) ∧ Below w.heap.size w w' := by
  go_enter Try.func22, Try.ntmps22
  go_wp2_with fail
  refine (index_none _ _).mono ?_
  rintro e w' ⟨rfl, rfl⟩
  go_wp2
  go_ret
  exact ⟨rfl, by repeat (first | exact Below.refl _ _ | refine Below.alloc ?_ (by simp; try omega) _)⟩
theorem new_cell (w : World) (cs : Array Value) (t : TypeId) (fr : Nat × Nat) (i : Nat) (v : Value) (h : cs[i]? = some v) : (w.alloc (.cells cs t fr)).cell? ⟨w.heap.size, i, none⟩ = some v := by
  unfold World.cell?
  rw [heap_alloc_new]
  simpa using h
/-- Of an empty request: an attribute that must be there is missing. -/
theorem get_none (w : World) (cat : Int) (s : ByteArray) : Calls Try.prog 8 #[.slice none 0 0, .agg #[.int .i64 cat, .string s, .bool true]] w fun e w' => e = .returned (.tuple #[.slice none 0 0, .int .i64 4]) ∧ Below w.heap.size w w' := by
  have hb0 := below_new w (.cells #[.int .i64 cat, .string s, .bool true] 27)
  go_enter Try.func8, Try.ntmps8
  go_wp2_with fail
  refine (place_none _ _ _).mono ?_
  rintro e w' ⟨rfl, hb⟩
  have hc : w'.cell? ⟨w.heap.size, 2, none⟩ = some (.bool true) := (hb.cell (by simp)).trans (new_cell w _ _ _ 2 _ rfl)
  have hb1 := below_on hb0 hb
  clear hb
  go_wp2
  go_ret2
  exact ⟨rfl, hb1⟩
theorem sort_none (w : World) (f : Value) : Calls Try.prog 25 #[.slice none 0 0, f] w fun e w' => e = .returned (.tuple #[]) ∧ w = w' := by
  go_enter Try.func25, Try.ntmps25
  go_wp2
  refine wp_loop_rounds 1 ?_
  rw [rounds_succ]
  go_wp2
  refine wp_loop_rounds 1 ?_
  rw [rounds_succ]
  go_wp2
  refine wp_loop_rounds 1 ?_
  rw [rounds_succ]
  go_wp2
  go_end0
  exact ⟨rfl, rfl⟩
theorem clone_none (w : World) : Calls Try.prog 24 #[.slice none 0 0] w fun e w' => e = .returned (.slice none 0 0) ∧ w = w' := by
  have heq := Lib.run_eql_slice_nil (P := Try.prog) w 32 40 none 0 0 0 0 Try.underlying32
  go_enter Try.func24, Try.ntmps24
  go_wp2
  go_ret
  exact ⟨rfl, rfl⟩
/-- Of an empty request: one nought. -/
theorem put_none (w : World) : Calls Try.prog 10 #[.slice none 0 0] w (BytesPost w [0]) := by
  go_enter Try.func10, Try.ntmps10
  go_wp2_with fail
  refine (clone_none w).mono ?_
  rintro e w' ⟨rfl, rfl⟩
  go_wp2_with fail
  refine (sort_none w _).mono ?_
  rintro e w' ⟨rfl, rfl⟩
  go_wp2_with fail
  refine (num_any none 0 0 0 [] rfl w (by decide) (by decide) (by decide) Sl.nil).mono ?_
  rw [List.nil_append, numP_0]
  rintro e w1 ⟨v, rfl, hown, hb⟩
  have HO := hide hown
  have HB := hide hb
  clear hown hb
  go_wp2
  refine wp_loop_rounds 1 ?_
  rw [rounds_succ]
  go_wp2
  go_ret
  exact ⟨_, rfl, HO.out, HB.out⟩
set_option maxHeartbeats 400000 in
theorem askRuns_walk (w : World) :
    Calls Try.prog 3 #[] w fun e w' => e = .returned (.bool true) ∧ Below w.heap.size w w' := by
  go_enter Try.func3, Try.ntmps3
  go_wp2_with fail
  refine (get_none w _ _).mono ?_
  rintro e w1 ⟨rfl, hb1⟩
  have HB1 := hide hb1
  clear hb1
  go_wp2_with fail
  refine (put_none w1).mono ?_
  rintro e w2 ⟨v, rfl, hown, hb2⟩
  have HB2 := hide (below_on HB1.out (below_on hb2 (below_new w2 (.cells (vbytes [0]).toArray 5))))
  have HO := hide (hown.alloc (.cells (vbytes [0]).toArray 5))
  clear hown hb2
  go_wp2_with fail
  refine (same_lit HO.out (by decide) rfl (by decide) (some ⟨w2.heap.size, 0, none⟩) 1 (new_sl w2 [0])).mono ?_
  rw [show sameB ([0] : List UInt8) [0] = true from by decide]
  rintro e w3 ⟨rfl, hq⟩
  have HB3 := hide (below_drawn HB2.out hq)
  clear hq
  go_wp2
  go_ret
  exact ⟨rfl, HB3.out⟩
end Go.Proofs.Ytjaofdalmjiliaa
