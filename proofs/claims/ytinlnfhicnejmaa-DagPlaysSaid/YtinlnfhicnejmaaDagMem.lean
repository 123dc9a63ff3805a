/-
  BRANCHES IN MEMORY; CONTRACTS OF dag.New, Dag.Len, Dag.may, bailifflaw16.b, slices.Index.
-/
import Derived.Test.YtinlnfhicnejmaaDagP
import Derived.Test.YtinlnfhicnejmaaAppend
import Derived.Test.YtinlnfhicnejmaaBookS
import Derived.Laws.StructEq
import Derived.Laws.Tables
import Derived.Laws.Cover2
import Derived.KernelRfl
import Derived.Deep.LoopGhost
import Derived.BigQuiet
namespace Go.Proofs.Ytinlnfhicnejmaa
open Go.RowKit
set_option linter.unusedVariables false

theorem below_on {w0 w w' : World} (h : Below w0.heap.size w0 w) (k : Below w.heap.size w w') : Below w0.heap.size w0 w' := h.trans (k.mono h.size)
theorem below_drawn {B : Nat} {w0 w w' : World} (h : Below B w0 w) (k : Drawn w w') : Below B w0 w' := by
  obtain ⟨n, rfl⟩ := k; exact ⟨h.os, h.tape, h.output, h.size, h.block⟩
theorem below_new (w : World) (o : Obj) : Below w.heap.size w (w.alloc o) := (Below.refl _ _).alloc (Nat.le_refl _) _
theorem sl_on {w w' : World} {a : Option Addr} {xs : List Value} (h : Sl w w.heap.size a xs) (k : Below w.heap.size w w') : Sl w' w'.heap.size a xs := (h.below k).more k.size
theorem eqArr (a b c x y z : Int) (w : World) : (Op.equalIn 9999 55 (.agg #[.int .i64 a, .int .i64 b, .int .i64 c]) (.agg #[.int .i64 x, .int .i64 y, .int .i64 z])).run Try.prog w = .ok (a == x && b == y && c == z) w := by
  have u3 := Try.underlying3
  have a3 := Try.isAgg3
  have z3 := Try.sizeOf3
  rw [show (9999 : Nat) = 9998 + 1 from rfl, Op.equalIn]
  simp only [Sem.run_bind, run_underlying Try.underlying55, Result.andThen_ok]
  simp only [Std.Legacy.Range.forIn_eq_forIn_range', Std.Legacy.Range.size, Nat.sub_zero, Nat.add_sub_cancel, Nat.div_one, List.range'_succ, List.range'_zero, List.forIn_cons, List.forIn_nil]
  go_simp
  by_cases h1 : a = x <;> by_cases h2 : b = y <;> by_cases h3 : c = z <;> simp [h1, h2, h3]
theorem eqBr (p q : Br) (w : World) : (Op.equalIn 10000 57 (brV p) (brV q)).run Try.prog w = .ok (decide (p = q)) w := by
  obtain ⟨a, b, c, d⟩ := p
  obtain ⟨x, y, z, u⟩ := q
  have u3 := Try.underlying3
  have a3 := Try.isAgg3
  have z3 := Try.sizeOf3
  have ha := eqArr b c d y z u
  have hS : Try.prog.underlying 57 = some (.struct (Try.prog.fieldsOf 57)) := by kernel_rfl
  have hp : Try.prog.stoodInHeld 57 = false := by kernel_rfl
  unfold brV
  rw [show (10000 : Nat) = 9999 + 1 from rfl, run_equalIn_agg w 9999 57 _ _ hS hp]
  simp only [Program.fieldsOf, Try.underlying57]
  go_simp
  by_cases h1 : a = x <;> by_cases h2 : b = y <;> by_cases h3 : c = z <;> by_cases h4 : d = u <;> simp [h1, h2, h3, h4]
/-- A diagram in memory: block g, its branches owned from block lo on. -/
def Dags (w : World) (lo g most : Nat) (l : List Br) : Prop :=
  ∃ v, w.heap[g]? = some (.cells #[.int .i64 (most : Nat), v] 88 (0, 0)) ∧ w.ownsRow lo 57 4 v l.length (cells4 l) ∧ lo ≤ g ∧ l.length ≤ most ∧ most ≤ 2000
theorem dags_lt {w : World} {lo g most : Nat} {l : List Br} (h : Dags w lo g most l) : g < w.heap.size := by
  obtain ⟨v, h1, _⟩ := h
  exact (Array.getElem?_eq_some_iff.1 h1).1
theorem dags_drawn {w w' : World} {lo g most : Nat} {l : List Br} (h : Dags w lo g most l) (hd : Drawn w w') : Dags w' lo g most l := by
  obtain ⟨n, rfl⟩ := hd; exact h
theorem own_below_keep {w w' : World} {B : Nat} {e : TypeId} {size n : Nat} {v : Value} {xs : List Value} (h : w.ownsRow B e size v n xs) (hb : Below w.heap.size w w') : w'.ownsRow B e size v n xs := by
  refine ⟨h.1, ?_⟩
  rcases h.2 with ⟨h1, h2⟩ | ⟨g, cap, cur, h1, h2, h3, h4⟩
  · exact .inl ⟨h1, h2⟩
  · exact .inr ⟨g, cap, cur, h1, h2, (hb.block g (Array.getElem?_eq_some_iff.1 h3).1).trans h3, h4⟩
theorem dags_below {w w' : World} {lo g most : Nat} {l : List Br} (h : Dags w lo g most l) (hb : Below w.heap.size w w') : Dags w' lo g most l := by
  have hlt := dags_lt h
  obtain ⟨v, h1, h2, h3⟩ := h
  exact ⟨v, (hb.block g hlt).trans h1, own_below_keep h2 hb, h3⟩
/-- What the walk is told of a diagram. -/
theorem dags_open {w : World} {lo g most : Nat} {l : List Br} (h : Dags w lo g most l) :
    ∃ A c, w.cell? ⟨g, 0, none⟩ = some (.int .i64 (most : Nat)) ∧ w.cell? ⟨g, 1, none⟩ = some (.slice A l.length c) ∧ Sl w w.heap.size A (cells4 l) ∧ l.length ≤ c ∧ l.length ≤ most ∧ most ≤ 2000 := by
  obtain ⟨v, h1, h2, h3, h4, h5⟩ := h
  obtain ⟨A, c, rfl, hnc, hsl, _⟩ := own_slice h2
  exact ⟨A, c, by simp [World.cell?, h1], by simp [World.cell?, h1], hsl, hnc, h4, h5⟩
theorem new_dag (most : Nat) (h1 : 1 ≤ most) (h2 : most ≤ 2000) (w : World) :
    Calls Try.prog 31 #[.int .i64 (most : Nat)] w fun e w' => e = .returned (.tuple #[.pointer (some ⟨w.heap.size, 0, none⟩), .int .i64 0]) ∧ Dags w' w.heap.size w.heap.size most [] ∧ Below w.heap.size w w' := by
  have d1 : ¬ (most : Int) < 1 := by omega
  have d2 : ¬ (2000 : Int) < (most : Int) := by omega
  go_enter Try.func31, Try.ntmps31
  go_wp2
  go_ret2
  exact ⟨rfl, ⟨.slice none 0 0, heap_alloc_new w _, World.ownsRow_nil _ _ _ _, Nat.le_refl _, Nat.zero_le _, h2⟩, below_new w _⟩
theorem len_any (lo g most : Nat) (l : List Br) (w : World) (h : Dags w lo g most l) :
    Calls Try.prog 36 #[.pointer (some ⟨g, 0, none⟩)] w fun e w' => e = .returned (.int .i64 (l.length : Nat)) ∧ w = w' := by
  obtain ⟨A, c, c0, c1, _⟩ := dags_open h
  clear h
  go_enter Try.func36, Try.ntmps36
  go_wp2
  go_ret
  exact ⟨rfl, rfl⟩
theorem br_any (a x y z : Int) (w : World) :
    Calls Try.prog 33 #[.int .i64 a, .int .i64 x, .int .i64 y, .int .i64 z] w fun e w' => e = .returned (brV (a, x, y, z)) ∧ Below w.heap.size w w' := by
  go_enter Try.func33, Try.ntmps33
  go_wp2
  refine bodyPost_ret (results_cell_row rfl _ _ w.heap.size 57 #[.int .i64 a, .int .i64 x, .int .i64 y, .int .i64 z] (0, 0) _ rfl (heap_alloc_new w _) Try.underlying57 rfl (by kernel_rfl)) rfl ?_
  exact ⟨rfl, below_new w _⟩
theorem may_any (lo g most : Nat) (l : List Br) (atom way : Int) (w : World) (h : Dags w lo g most l) :
    Calls Try.prog 46 #[.pointer (some ⟨g, 0, none⟩), .int .i64 atom, .int .i64 way] w fun e w' => e = .returned (.bool (mayP l atom way)) ∧ w = w' := by
  obtain ⟨A, c, c0, c1, hs, hc, hm, h20⟩ := dags_open h
  clear h
  by_cases hw : way < 0
  · rw [mayP_neg hw]
    clear hs
    go_enter Try.func46, Try.ntmps46
    go_wp2
    go_ret
    exact ⟨rfl, rfl⟩
  · obtain ⟨k, rfl⟩ := Int.eq_ofNat_of_zero_le (by omega : 0 ≤ way)
    by_cases hk : k < l.length
    · rw [mayP_at hk]
      obtain ⟨b, off, rfl, hb, x0, _⟩ := hs.branch hk
      have hk' : (k : Int) < (l.length : Int) := by omega
      clear hs
      go_enter Try.func46, Try.ntmps46
      go_wp2
      go_ret
      exact ⟨rfl, rfl⟩
    · rw [mayP_out (by omega)]
      have hk' : ¬ (k : Int) < (l.length : Int) := by omega
      clear hs
      go_enter Try.func46, Try.ntmps46
      go_wp2
      go_ret
      exact ⟨rfl, rfl⟩
theorem new_cell (w : World) (cs : Array Value) (t : TypeId) (fr : Nat × Nat) (i : Nat) (v : Value) (h : cs[i]? = some v) : (w.alloc (.cells cs t fr)).cell? ⟨w.heap.size, i, none⟩ = some v := by
  unfold World.cell?
  rw [heap_alloc_new]
  simpa using h
/-- The k-th step of the look for a branch. -/
def IdxRel (w : World) (l : List Br) (b : Br) (R : Int) (i : Value) (wr : World) : Prop := ∃ k : Nat, k ≤ l.length ∧ i = .int .i64 k ∧ idxP b (l.drop k) k = R ∧ Below w.heap.size w wr ∧ Drawn (w.alloc (.cells #[.int .i64 b.1, .int .i64 b.2.1, .int .i64 b.2.2.1, .int .i64 b.2.2.2] 57)) wr
set_option maxHeartbeats 1000000 in
theorem index_any (A : Option Addr) (c n : Nat) (l : List Br) (hn : l.length = n) (ba bx by_ bz : Int) (w : World) (hl : l.length ≤ 2000) (hs : Sl w w.heap.size A (cells4 l)) :
    Calls Try.prog 47 #[.slice A n c, .agg #[.int .i64 ba, .int .i64 bx, .int .i64 by_, .int .i64 bz]] w fun e w' => e = .returned (.int .i64 (idxP (ba, bx, by_, bz) l 0)) ∧ Below w.heap.size w w' := by
  subst hn
  have HS := hide hs
  obtain ⟨R, hR⟩ : ∃ R, R = idxP (ba, bx, by_, bz) l 0 := ⟨_, rfl⟩
  rw [← hR]
  have HR := hide hR
  clear hs hR
  go_enter Try.func47, Try.ntmps47
  go_wp2
  go_loopw [8] (fun i wr => IdxRel w l (ba, bx, by_, bz) R i wr) (fun i _ => l.length - (intOf i).toNat)
  case atStart => exact ⟨0, Nat.zero_le _, rfl, HR.out.symm, below_new w _, ⟨0, rfl⟩⟩
  case round =>
    obtain ⟨k, hk, rfl, hidx, hbel, hdr⟩ := hrel
    have HBE := hide hbel
    have HDR := hide hdr
    clear hbel hdr HR
    by_cases hlt : k < l.length
    · obtain ⟨b, off, rfl, hb, x0, x1, x2, x3⟩ := HS.out.branch hlt
      rw [List.drop_eq_getElem_cons hlt] at hidx
      obtain ⟨⟨pa, px, py, pz⟩, hp⟩ : ∃ p, p = l[k] := ⟨_, rfl⟩
      rw [← hp] at x0 x1 x2 x3 hidx
      have y0 := (HBE.out.cell hb).trans x0
      have y1 := (HBE.out.cell hb).trans x1
      have y2 := (HBE.out.cell hb).trans x2
      have y3 := (HBE.out.cell hb).trans x3
      have heq := eqBr (ba, bx, by_, bz) (pa, px, py, pz)
      have hk1 : IntKind.i64.wrap ((k : Int) + 1) = (k : Int) + 1 := IntWalk.i64_in _ (by omega)
      have z0 : wr.cell? ⟨w.heap.size, 0, none⟩ = some (.int .i64 ba) := (HDR.out.cell _).trans (new_cell w _ _ _ 0 _ rfl)
      have z1 : wr.cell? ⟨w.heap.size, 1, none⟩ = some (.int .i64 bx) := (HDR.out.cell _).trans (new_cell w _ _ _ 1 _ rfl)
      have z2 : wr.cell? ⟨w.heap.size, 2, none⟩ = some (.int .i64 by_) := (HDR.out.cell _).trans (new_cell w _ _ _ 2 _ rfl)
      have z3 : wr.cell? ⟨w.heap.size, 3, none⟩ = some (.int .i64 bz) := (HDR.out.cell _).trans (new_cell w _ _ _ 3 _ rfl)
      unfold brV at heq
      simp only at heq
      unfold idxP at hidx
      clear hp x0 x1 x2 x3 hb
      by_cases he : (ba, bx, by_, bz) = ((pa, px, py, pz) : Br)
      · rw [if_pos he.symm] at hidx
        rw [decide_eq_true he] at heq
        have HI : Hid ((k : Int) = R) := hide hidx
        clear hidx he
        go_wp2
        go_quiet (fail)
        go_wp2
        go_ret
        exact ⟨by rw [← HI.out]; rfl, below_drawn HBE.out ⟨_, rfl⟩⟩
      · rw [if_neg (fun h => he h.symm)] at hidx
        rw [decide_eq_false he] at heq
        have HI := hide hidx
        clear hidx he
        go_wp2
        go_quiet (fail)
        go_wp2
        go_roundw
        case rel => exact ⟨k + 1, hlt, by go_num, HI.out, below_drawn HBE.out ⟨_, rfl⟩, HDR.out.drewN _⟩
        case measure => simp [intOf]; omega
    · obtain rfl : k = l.length := by omega
      rw [List.drop_length] at hidx
      have HI : Hid (R = -1) := hide hidx.symm
      clear hidx HDR
      go_wp2
      go_ret
      exact ⟨by rw [HI.out]; rfl, HBE.out⟩
end Go.Proofs.Ytinlnfhicnejmaa
