/-
  TWO DIAGRAMS SIDE BY SIDE: the program's and the document's.
-/
import Derived.Test.YtinlnfhicnejmaaRefSize
import Derived.Test.YtinlnfhicnejmaaDagMade
import Derived.Test.YtinlnfhicnejmaaOpen16
namespace Go.Proofs.Ytinlnfhicnejmaa
open Go.RowKit
set_option linter.unusedVariables false

/-- Two rows have no block in common. -/
def ApartV (v v2 : Value) : Prop := ∀ k, v.ownBlock = some k → v2.ownBlock ≠ some k
theorem ApartV.symm {v v2 : Value} (h : ApartV v v2) : ApartV v2 v := fun k h1 h2 => h k h2 h1
theorem own_keepV {w w' : World} {g B size n : Nat} {e : TypeId} {v u : Value} {xs : List Value} (hk : KeepV g u w w') (h : w.ownsRow B e size v n xs) (h1 : some g ≠ v.ownBlock) (h2 : ApartV v u) : w'.ownsRow B e size v n xs := by
  refine ⟨h.1, ?_⟩
  rcases h.2 with ⟨e1, e2⟩ | ⟨b, cap, cur, e1, e2, e3, e4⟩
  · exact .inl ⟨e1, e2⟩
  · subst e1
    refine .inr ⟨b, cap, cur, rfl, e2, ?_, e4⟩
    rw [hk.2 b (Array.getElem?_eq_some_iff.1 e3).1 (fun hb => h1 (by rw [hb]; rfl)) (fun hb => h2 b rfl hb.symm)]
    exact e3
theorem pair_make {T1 T2 : TypeId} (hT : T1 ≠ T2) (hB1 : T1 ≠ 57) (hB2 : T2 ≠ 57) {w w' : World} {lo g1 g2 N : Nat} {L1 L2 : List Br} {v1 v2 : Value} {r : Int × Int × List Br} {e : Ending}
    (d1 : DagV T1 w lo g1 N L1 v1) (d2 : DagV T2 w lo g2 N L2 v2) (ap : ApartV v1 v2) (hp : MadeV T1 lo g1 N w v1 r e w') :
    e = .returned (.tuple #[.int .i64 r.1, .int .i64 r.2.1]) ∧ Below lo w w' ∧ ∃ v1', DagV T1 w' lo g1 N r.2.2 v1' ∧ DagV T2 w' lo g2 N L2 v2 ∧ ApartV v1' v2 := by
  obtain ⟨v1', h1, h2, h3, h4, h5⟩ := hp
  have hne : g2 ≠ g1 := fun hg => by
    have := d2.1
    rw [hg, d1.1] at this
    injection this with this
    injection this with _ this _
    exact hT this
  refine ⟨h1, h3, v1', h2, ⟨?_, own_keepV h4 d2.2.1 (own_block_ne d2.2.1 d1.1 hB1) ap.symm, d2.2.2⟩, ?_⟩
  · rw [h4.2 g2 (dagV_lt d2) hne (own_block_ne d1.2.1 d2.1 hB2)]
    exact d2.1
  · rcases h5 with h5 | h5
    · intro k hk; exact ap k (h5 ▸ hk)
    · intro k hk hk2
      have := h5 k hk
      have := (d2.2.1.lt k hk2).2
      omega
/-- The program's diagram and the document's. -/
def Two (w : World) (g g2 N : Nat) (L1 L2 : List Br) (wr : World) : Prop :=
  Below w.heap.size w wr ∧ ∃ v1 v2, DagV 88 wr w.heap.size g N L1 v1 ∧ DagV 66 wr w.heap.size g2 N L2 v2 ∧ ApartV v1 v2
theorem Two.on {w w1 w2 : World} {g g2 N : Nat} {L1 L2 : List Br} (h : Two w g g2 N L1 L2 w1) (hb : Below w1.heap.size w1 w2) : Two w g g2 N L1 L2 w2 := by
  obtain ⟨h1, v1, v2, h2, h3, h4⟩ := h
  exact ⟨below_on h1 hb, v1, v2, dagV_below h2 hb, dagV_below h3 hb, h4⟩
theorem Two.dags {w w1 : World} {g g2 N : Nat} {L1 L2 : List Br} (h : Two w g g2 N L1 L2 w1) : Dags w1 w.heap.size g N L1 := by
  obtain ⟨_, v1, _, h2, _⟩ := h
  exact ⟨v1, h2⟩
theorem Two.len {w w1 : World} {g g2 N : Nat} {L1 L2 : List Br} (h : Two w g g2 N L1 L2 w1) : L1.length ≤ 2000 := by
  obtain ⟨_, v1, _, h2, _⟩ := h
  have := h2.2.2.2
  omega
/-- The document's diagram, as the walk loads it. -/
theorem Two.cell {w w1 : World} {g g2 N : Nat} {L1 L2 : List Br} (h : Two w g g2 N L1 L2 w1) : ∃ A c, g2 < w1.heap.size ∧ w1.cell? ⟨g2, 1, none⟩ = some (.slice A L2.length c) ∧ Sl w1 w1.heap.size A (cells4 L2) := by
  obtain ⟨_, _, v2, _, h3, _⟩ := h
  obtain ⟨A, c, hv, _⟩ := own_slice h3.2.1
  subst hv
  obtain ⟨_, h4, h5, _⟩ := dagV_open h3
  exact ⟨A, c, dagV_lt h3, h4, h5⟩
theorem Two.make {w w0 w1 : World} {g g2 N : Nat} {L1 L2 : List Br} (a x y z : Int) (h0 : Two w g g2 N L1 L2 w0) (hb : Below w0.heap.size w0 w1) :
    Calls Try.prog 32 #[.pointer (some ⟨g, 0, none⟩), .agg #[.int .i64 a, .int .i64 x, .int .i64 y, .int .i64 z]] w1 fun e w2 => e = .returned (.tuple #[.int .i64 (makeP N L1 (a, x, y, z)).1, .int .i64 (makeP N L1 (a, x, y, z)).2.1]) ∧ Two w g g2 N (makeP N L1 (a, x, y, z)).2.2 L2 w2 ∧ ∀ k, w0.heap.size ≤ k → k < w1.heap.size → w2.heap[k]? = w1.heap[k]? := by
  obtain ⟨h1, v1, v2, h2, h3, h4⟩ := h0
  have hlt := dagV_lt h2
  have hown := h2.2.1.lt
  have h2 := dagV_below h2 hb
  have h3 := dagV_below h3 hb
  have h1 := below_on h1 hb
  refine (make_v w.heap.size g N L1 a x y z v1 w1 h1.size h2).mono fun e w2 hp => ?_
  have hs : ∀ k, w0.heap.size ≤ k → k < w1.heap.size → w2.heap[k]? = w1.heap[k]? := by
    obtain ⟨_, _, _, _, hk, _⟩ := hp
    exact fun k h1 h2 => hk.2 k h2 (by omega) (fun hv => by have := (hown k hv.symm).2; omega)
  obtain ⟨e1, e2, v1', e3, e4, e5⟩ := pair_make (by decide) (by decide) (by decide) h2 h3 h4 hp
  exact ⟨e1, ⟨h1.trans e2, v1', v2, e3, e4, e5⟩, hs⟩
theorem Two.rmake {w w1 : World} {g g2 N : Nat} {L1 L2 : List Br} (a x y z : Int) (h : Two w g g2 N L1 L2 w1) :
    Calls Try.prog 38 #[.pointer (some ⟨g2, 0, none⟩), .agg #[.int .i64 a, .int .i64 x, .int .i64 y, .int .i64 z]] w1 fun e w2 => e = .returned (.tuple #[.int .i64 (makeP N L2 (a, x, y, z)).1, .int .i64 (makeP N L2 (a, x, y, z)).2.1]) ∧ Two w g g2 N L1 (makeP N L2 (a, x, y, z)).2.2 w2 := by
  obtain ⟨h1, v1, v2, h2, h3, h4⟩ := h
  refine (rmake_v w.heap.size g2 N L2 a x y z v2 w1 h1.size h3).mono fun e w2 hp => ?_
  obtain ⟨e1, e2, v1', e3, e4, e5⟩ := pair_make (by decide) (by decide) (by decide) h3 h2 h4.symm hp
  exact ⟨e1, h1.trans e2, v1, v1', e4, e3, e5.symm⟩
theorem Two.walk {w w1 : World} {g g2 N : Nat} {L1 L2 : List Br} (h : Two w g g2 N L1 L2 w1) (hg : Good L1) {A : Option Addr} {c n : Nat} {ans : List Int} (hn : ans.length = n) {root : Int} (hr : -9223372036854775808 ≤ root) (hs : Sl w w.heap.size A (vints .i64 ans)) :
    Calls Try.prog 34 #[.pointer (some ⟨g, 0, none⟩), .int .i64 root, .slice A n c] w1 fun e w' => e = .returned (.int .i64 (walkP L1 ans root)) ∧ Below w1.heap.size w1 w' :=
  (walk_any _ g N L1 A c n ans hn root w1 w.heap.size hr hg h.dags (hs.below h.1)).mono fun e w' k => ⟨k.1, below_drawn (Below.refl _ _) k.2⟩
theorem Two.rwalk {w w1 : World} {g g2 N : Nat} {L1 L2 : List Br} (h : Two w g g2 N L1 L2 w1) (hg : Good L2) {A : Option Addr} {c n : Nat} {ans : List Int} (hn : ans.length = n) {root : Int} (hr : -9223372036854775808 ≤ root) (hs : Sl w w.heap.size A (vints .i64 ans)) :
    Calls Try.prog 39 #[.pointer (some ⟨g2, 0, none⟩), .int .i64 root, .slice A n c] w1 fun e w' => e = .returned (.int .i64 (walkP L2 ans root)) ∧ Below w1.heap.size w1 w' := by
  have h' := h
  obtain ⟨h1, _, v2, _, h3, _⟩ := h'
  exact (rwalk_any _ g2 N L2 v2 A c n ans hn root w1 hr hg h3 ((hs.below h1).more h1.size)).mono fun e w' k => ⟨k.1, k.2⟩
theorem Two.size {w w1 : World} {g g2 N : Nat} {L1 L2 : List Br} (h : Two w g g2 N L1 L2 w1) (hg : Good L1) {root : Int} (hr : I64 root) :
    Calls Try.prog 35 #[.pointer (some ⟨g, 0, none⟩), .int .i64 root] w1 fun e w' => e = .returned (.int .i64 (sizeP L1 root : Nat)) ∧ Below w1.heap.size w1 w' :=
  (size_any _ g N L1 root (4 * L1.length + 2) (sizeP L1 root) w1 (by have := h.len; omega) hr (good_i64 hg h.len) (size_spec L1 root).1 h.dags).mono fun e w' k => ⟨k.1, k.2⟩
theorem Two.rsize {w w1 : World} {g g2 N : Nat} {L1 L2 : List Br} (h : Two w g g2 N L1 L2 w1) (hg : Good L2) {root : Int} :
    Calls Try.prog 40 #[.pointer (some ⟨g2, 0, none⟩), .int .i64 root] w1 fun e w' => e = .returned (.int .i64 (sizeP L2 root : Nat)) ∧ Below w1.heap.size w1 w' := by
  have h' := h
  obtain ⟨h1, _, v2, _, h3, _⟩ := h'
  exact (rsize_any _ g2 N L2 v2 root w1 hg h3).mono fun e w' k => ⟨k.1, k.2⟩
/-- There is none of so many. -/
theorem new_none (n : Int) (h : n < 1 ∨ 2000 < n) (w : World) :
    Calls Try.prog 31 #[.int .i64 n] w fun e w' => e = .returned (.tuple #[.pointer none, .int .i64 1]) ∧ w = w' := by
  rcases h with h | h
  · go_enter Try.func31, Try.ntmps31
    go_wp2
    go_ret2
    exact ⟨rfl, rfl⟩
  · have h' : ¬ n < 1 := by omega
    go_enter Try.func31, Try.ntmps31
    go_wp2
    go_ret2
    exact ⟨rfl, rfl⟩
/-- Both at the start. -/
theorem Two.start {w w1 : World} {N : Nat} (h : Own w w.heap.size N [] w1) : Two w w.heap.size w1.heap.size N [] [] (w1.alloc (.cells #[.int .i64 (N : Nat), .slice none 0 0] 66)) := by
  have hb := below_new w1 (.cells #[.int .i64 (N : Nat), .slice none 0 0] 66)
  obtain ⟨v, hv⟩ := (own_on h hb).1
  exact ⟨below_on h.2 hb, v, .slice none 0 0, hv, ⟨heap_alloc_new w1 _, World.ownsRow_nil _ _ _ _, h.2.size, Nat.zero_le _, hv.2.2.2.2⟩, fun k _ h2 => by cases h2⟩
end Go.Proofs.Ytinlnfhicnejmaa
