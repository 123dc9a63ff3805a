/-
  MEMORY OF DagOnce: the ways' row and the rows of ends beside the diagram.
-/
import Derived.Test.YtinlnfhicnejmaaDagKeep
import Derived.Test.YtinlnfhicnejmaaDagOnceP
import Derived.Test.YtinlnfhicnejmaaDagRunsW
import Derived.Test.YtinlnfhicnejmaaSameI
namespace Go.Proofs.Ytinlnfhicnejmaa
open Go.RowKit
set_option linter.unusedVariables false

/-- A row of another type grows: a diagram stays. -/
theorem dags_grown {w w' : World} {lo g most B size n : Nat} {e : TypeId} {l : List Br} {v : Value} {xs : List Value} (h : Dags w lo g most l) (hv : w.ownsRow B e size v n xs) (h1 : 57 ≠ e) (h2 : 88 ≠ e) (hg : w.grownBy w' v.ownBlock) : Dags w' lo g most l := by
  have hlt := dags_lt h
  obtain ⟨v0, g1, g2, g3⟩ := h
  exact ⟨v0, (hg.block g hlt (own_block_ne hv g1 h2)).trans g1, World.ownsRow.kept g2 hg (own_ne g2 hv h1), g3⟩
/-- What Make keeps. -/
theorem own_keep {w w' : World} {lo g most B size n : Nat} {e : TypeId} {l : List Br} {v : Value} {xs : List Value} (hk : Keep g w w') (hd : Dags w lo g most l) (h : w.ownsRow B e size v n xs) (h1 : e ≠ 57) (h2 : 88 ≠ e) : w'.ownsRow B e size v n xs := by
  obtain ⟨v0, g1, _⟩ := hd
  have hne := own_block_ne h g1 h2
  refine ⟨h.1, ?_⟩
  rcases h.2 with ⟨e1, e2⟩ | ⟨b, cap, cur, e1, e2, e3, e4⟩
  · exact .inl ⟨e1, e2⟩
  · subst e1
    exact .inr ⟨b, cap, cur, rfl, e2, hk b cur e (0, 0) (fun hb => hne (by rw [hb]; rfl)) h1 e3, e4⟩
theorem own_kept {w w1 : World} {g most : Nat} {l : List Br} (a x y z : Int) (h : Own w g most l w1) :
    Calls Try.prog 32 #[.pointer (some ⟨g, 0, none⟩), .agg #[.int .i64 a, .int .i64 x, .int .i64 y, .int .i64 z]] w1 fun e w2 => e = .returned (.tuple #[.int .i64 (makeP most l (a, x, y, z)).1, .int .i64 (makeP most l (a, x, y, z)).2.1]) ∧ Own w g most (makeP most l (a, x, y, z)).2.2 w2 ∧ Keep g w1 w2 :=
  (make_kept w.heap.size g most l a x y z w1 h.2.size h.1).mono fun e w2 hp => ⟨hp.1, ⟨hp.2.1, h.2.trans hp.2.2.1⟩, hp.2.2.2⟩
/-- Ways that were told, in a row of their own. -/
structure Ways (w : World) (g : Nat) (v : Value) (W : List Int) (L : List Br) (wr : World) : Prop where
  own : Own w g 60 L wr
  red : Red L
  row : wr.ownsRow w.heap.size 3 1 v W.length (vints .i64 W)
  way : ∀ u ∈ W, IsWay L u ∧ -1048576 ≤ u
theorem Ways.on {w w1 w2 : World} {g : Nat} {v : Value} {W : List Int} {L : List Br} (h : Ways w g v W L w1) (hb : Below w1.heap.size w1 w2) : Ways w g v W L w2 :=
  ⟨own_on h.own hb, h.red, own_below_keep h.row hb, h.way⟩
/-- Behind a branch that was made. -/
theorem Ways.make {w w1 w2 : World} {g : Nat} {v : Value} {W : List Int} {L : List Br} (h : Ways w g v W L w1) (hl : L.length < 60) (b : Br) (ha : b.1 < 4) (ho : Own w g 60 (makeP 60 L b).2.2 w2) (hk : Keep g w1 w2) : Ways w g v W (makeP 60 L b).2.2 w2 :=
  have hm := red_make h.red hl b ha
  ⟨ho, hm.red, own_keep hk h.own.1 h.row (by decide) (by decide), fun u hu => ⟨isWay_more (h.way u hu).1 hm.ge, (h.way u hu).2⟩⟩
theorem Ways.app {w w1 w2 : World} {g : Nat} {v v2 : Value} {W : List Int} {L : List Br} {u : Int} (h : Ways w g v W L w1) (hu : IsWay L u ∧ -1048576 ≤ u) (hr : w2.ownsRow w.heap.size 3 1 v2 (W.length + 1) (vints .i64 W ++ [.int .i64 u])) (hg : w1.grownBy w2 v.ownBlock) : Ways w g v2 (W ++ [u]) L w2 := by
  refine ⟨⟨dags_grown h.own.1 h.row (by decide) (by decide) hg, own_below h.row h.own.2 hg (Nat.le_refl _) h.own.2.size⟩, h.red, ?_, ?_⟩
  · rw [show (W ++ [u]).length = W.length + 1 by simp, show vints .i64 (W ++ [u]) = vints .i64 W ++ [.int .i64 u] by simp [vints]]
    exact hr
  · intro x hx
    rcases List.mem_append.1 hx with hx | hx
    · exact h.way x hx
    · rw [List.mem_singleton.1 hx]; exact hu
/-- The ways at the start: three ends. -/
theorem Ways.start {w w1 : World} {g : Nat} (ho : Own w g 60 [] w1) : Ways w g (.slice (some ⟨w1.heap.size, 0, none⟩) 3 3) [-1, -2, -3] [] (w1.alloc (.cells #[.int .i64 (-1), .int .i64 (-2), .int .i64 (-3)] 3)) :=
  ⟨own_on ho (below_new _ _), red_nil, World.ownsRow_lit w1 #[.int .i64 (-1), .int .i64 (-2), .int .i64 (-3)] 3 ho.2.size (by decide) rfl, fun u hu => by
    simp at hu
    unfold IsWay
    simp only [List.length_nil]
    omega⟩
/-- Rows of ends, each in a row of its own. -/
def RowsI (wr : World) (B : Nat) (E : List Value) (L : List Br) (W : List Int) (k : Nat) : Prop :=
  E.length = k ∧ ∀ (i : Nat) (u : Int), i < k → W[i]? = some u → ∃ v, E[i]? = some v ∧ wr.ownsRow B 3 1 v 81 (vints .i64 (endsK L u 81))
theorem RowsI.nil (wr : World) (B : Nat) (L : List Br) (W : List Int) : RowsI wr B [] L W 0 := ⟨rfl, fun i u h => by omega⟩
theorem RowsI.keep {wr w2 : World} {B : Nat} {E : List Value} {L : List Br} {W : List Int} {k : Nat} (h : RowsI wr B E L W k) (hk : ∀ v n xs, wr.ownsRow B 3 1 v n xs → w2.ownsRow B 3 1 v n xs) : RowsI w2 B E L W k :=
  ⟨h.1, fun i u hi hu => by obtain ⟨v, h1, h2⟩ := h.2 i u hi hu; exact ⟨v, h1, hk _ _ _ h2⟩⟩
theorem RowsI.snoc {wr : World} {B : Nat} {E : List Value} {L : List Br} {W : List Int} {k : Nat} (h : RowsI wr B E L W k) {u : Int} (hu : W[k]? = some u) {v : Value} (hv : wr.ownsRow B 3 1 v 81 (vints .i64 (endsK L u 81))) : RowsI wr B (E ++ [v]) L W (k + 1) := by
  refine ⟨by simp [h.1], fun i u' hi hu' => ?_⟩
  by_cases hik : i < k
  · rw [List.getElem?_append_left (by rw [h.1]; exact hik)]
    exact h.2 i u' hik hu'
  · obtain rfl : i = k := by omega
    rw [hu] at hu'
    injection hu' with hu'
    subst hu'
    exact ⟨v, by rw [List.getElem?_append_right (by rw [h.1]; exact Nat.le_refl _), h.1]; simp, hv⟩
/-- The rows of ends and their slice. -/
structure Ends (w0 : World) (v : Value) (E : List Value) (L : List Br) (W : List Int) (k : Nat) (wr : World) : Prop where
  row : wr.ownsRow w0.heap.size 60 1 v k E
  rows : RowsI wr w0.heap.size E L W k
  below : Below w0.heap.size w0 wr
theorem Ends.on {w0 w1 w2 : World} {v : Value} {E : List Value} {L : List Br} {W : List Int} {k : Nat} (h : Ends w0 v E L W k w1) (hb : Below w1.heap.size w1 w2) : Ends w0 v E L W k w2 :=
  ⟨own_below_keep h.row hb, h.rows.keep (fun _ _ _ h => own_below_keep h hb), below_on h.below hb⟩
theorem Ends.app {w0 w1 w2 : World} {v v2 rv : Value} {E : List Value} {L : List Br} {W : List Int} {k : Nat} {u : Int} (h : Ends w0 v E L W k w1) (hu : W[k]? = some u) (hv : w1.ownsRow w0.heap.size 3 1 rv 81 (vints .i64 (endsK L u 81)))
    (hr : w2.ownsRow w0.heap.size 60 1 v2 (k + 1) (E ++ [rv])) (hg : w1.grownBy w2 v.ownBlock) : Ends w0 v2 (E ++ [rv]) L W (k + 1) w2 := by
  have hk : ∀ v' n xs, w1.ownsRow w0.heap.size 3 1 v' n xs → w2.ownsRow w0.heap.size 3 1 v' n xs := fun v' n xs h' => World.ownsRow.kept h' hg (own_ne h' h.row (by decide))
  exact ⟨hr, (h.rows.keep hk).snoc hu (hk _ _ _ hv), own_below h.row h.below hg (Nat.le_refl _) h.below.size⟩
/-- Two rows of ends, looked at. -/
theorem Ends.at {w0 wr : World} {v : Value} {E : List Value} {L : List Br} {W : List Int} {k i : Nat} {u : Int} (h : Ends w0 v E L W k wr) (hi : i < k) (hu : W[i]? = some u) :
    ∃ b off A c cE, v = .slice (some ⟨b, off, none⟩) k cE ∧ b < wr.heap.size ∧ wr.cell? ⟨b, off + i, none⟩ = some (.slice A 81 c) ∧ Sl wr wr.heap.size A (vints .i64 (endsK L u 81)) := by
  obtain ⟨rv, h1, h2⟩ := h.rows.2 i u hi hu
  obtain ⟨A, c, rfl, _, hs, _⟩ := own_slice h2
  obtain ⟨A', cE, rfl, _, hs', _⟩ := own_slice h.row
  obtain ⟨b, off, rfl, hb, hc⟩ := hs'.at h1
  exact ⟨b, off, A, c, cE, rfl, hb, hc, hs⟩
theorem Ends.two {w0 wr : World} {v : Value} {E : List Value} {L : List Br} {W : List Int} {k i j : Nat} {x y : Int} (h : Ends w0 v E L W k wr) (hi : i < k) (hx : W[i]? = some x) (hj : j < k) (hy : W[j]? = some y) :
    ∃ b off A c A' c' cE, v = .slice (some ⟨b, off, none⟩) k cE ∧ b < wr.heap.size ∧ wr.cell? ⟨b, off + i, none⟩ = some (.slice A 81 c) ∧ wr.cell? ⟨b, off + j, none⟩ = some (.slice A' 81 c') ∧ Sl wr wr.heap.size A (vints .i64 (endsK L x 81)) ∧ Sl wr wr.heap.size A' (vints .i64 (endsK L y 81)) := by
  obtain ⟨b, off, A, c, cE, rfl, hb, h1, h2⟩ := h.at hi hx
  obtain ⟨b', off', A', c', cE', hv, _, h1', h2'⟩ := h.at hj hy
  injection hv with hv _ _
  injection hv with hv
  injection hv with e1 e2 _
  subst e1 e2
  exact ⟨b, off, A, c, A', c', cE, rfl, hb, h1, h1', h2, h2'⟩
end Go.Proofs.Ytinlnfhicnejmaa
