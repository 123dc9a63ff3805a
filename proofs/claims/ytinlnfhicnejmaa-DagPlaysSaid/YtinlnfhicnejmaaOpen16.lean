/-
  ARGUMENTS OPENED: a slice of structs of a number, three numbers in an array, and a truth. Over whatever program. No condition.
-/
import Derived.Test.YtinlnfhicnejmaaOpen
import Derived.Deep.Strs
namespace Go.Proofs.Ytinlnfhicnejmaa
open Go.ChangeShapes Go.WideShapes Go.ChangeAt Go.RowKit Go.Deep
open Go.ChangeMaps (open_string shut_string)

abbrev A5 := Int × Int × Int × Int × Bool
def cells5 : List A5 → List Value
  | [] => []
  | x :: l => .int .i64 x.1 :: .int .i64 x.2.1 :: .int .i64 x.2.2.1 :: .int .i64 x.2.2.2.1 :: .bool x.2.2.2.2 :: cells5 l
theorem cells5_at : ∀ (l : List A5) (i : Nat) (x : A5), l[i]? = some x →
    (cells5 l)[i * 5]? = some (.int .i64 x.1) ∧ (cells5 l)[i * 5 + 1]? = some (.int .i64 x.2.1) ∧ (cells5 l)[i * 5 + 2]? = some (.int .i64 x.2.2.1) ∧ (cells5 l)[i * 5 + 3]? = some (.int .i64 x.2.2.2.1) ∧ (cells5 l)[i * 5 + 4]? = some (.bool x.2.2.2.2)
  | [], i, x, h => by simp at h
  | y :: l, 0, x, h => by
    simp at h; subst h; exact ⟨rfl, rfl, rfl, rfl, rfl⟩
  | y :: l, i + 1, x, h => by
    rw [List.getElem?_cons_succ] at h
    obtain ⟨h1, h2, h3, h4, h5⟩ := cells5_at l i x h
    have e : (i + 1) * 5 = i * 5 + 1 + 1 + 1 + 1 + 1 := by omega
    refine ⟨?_, ?_, ?_, ?_, ?_⟩
    · rw [e]; exact h1
    · rw [e, show i * 5 + 1 + 1 + 1 + 1 + 1 + 1 = (i * 5 + 1) + 1 + 1 + 1 + 1 + 1 by omega]; exact h2
    · rw [e, show i * 5 + 1 + 1 + 1 + 1 + 1 + 2 = (i * 5 + 2) + 1 + 1 + 1 + 1 + 1 by omega]; exact h3
    · rw [e, show i * 5 + 1 + 1 + 1 + 1 + 1 + 3 = (i * 5 + 3) + 1 + 1 + 1 + 1 + 1 by omega]; exact h4
    · rw [e, show i * 5 + 1 + 1 + 1 + 1 + 1 + 4 = (i * 5 + 4) + 1 + 1 + 1 + 1 + 1 by omega]; exact h5
theorem cells5_of : ∀ (l : List A5) (k : Nat) (v : Value), (cells5 l)[k]? = some v → ∃ (i j : Nat) (x : A5), l[i]? = some x ∧ k = i * 5 + j ∧ j < 5 ∧ [Value.int .i64 x.1, .int .i64 x.2.1, .int .i64 x.2.2.1, .int .i64 x.2.2.2.1, .bool x.2.2.2.2][j]? = some v
  | [], k, v, h => by simp [cells5] at h
  | y :: l, 0, v, h => ⟨0, 0, y, rfl, rfl, by omega, h⟩
  | y :: l, 1, v, h => ⟨0, 1, y, rfl, rfl, by omega, h⟩
  | y :: l, 2, v, h => ⟨0, 2, y, rfl, rfl, by omega, h⟩
  | y :: l, 3, v, h => ⟨0, 3, y, rfl, rfl, by omega, h⟩
  | y :: l, 4, v, h => ⟨0, 4, y, rfl, rfl, by omega, h⟩
  | y :: l, k + 5, v, h => by
    have h' : (cells5 l)[k]? = some v := h
    obtain ⟨i, j, x, hx, hk, hj, ho⟩ := cells5_of l k v h'
    exact ⟨i + 1, j, x, by simpa using hx, by omega, hj, ho⟩
theorem Sl.ask5 {w : World} {B : Nat} {a : Option Addr} {l : List A5} {i : Nat} (h : Sl w B a (cells5 l)) (hi : i < l.length) :
    ∃ b off, a = some ⟨b, off, none⟩ ∧ b < B ∧ w.cell? ⟨b, off + i * 5, none⟩ = some (.int .i64 l[i].1) ∧ w.cell? ⟨b, off + i * 5 + 1, none⟩ = some (.int .i64 l[i].2.1) ∧ w.cell? ⟨b, off + i * 5 + 2, none⟩ = some (.int .i64 l[i].2.2.1) ∧ w.cell? ⟨b, off + i * 5 + 3, none⟩ = some (.int .i64 l[i].2.2.2.1) ∧ w.cell? ⟨b, off + i * 5 + 4, none⟩ = some (.bool l[i].2.2.2.2) := by
  obtain ⟨h1, h2, h3, h4, h5⟩ := cells5_at l i l[i] (List.getElem?_eq_getElem hi)
  obtain ⟨b, off, e, hb, hc⟩ := h (fun he => by rw [he] at h1; simp at h1)
  refine ⟨b, off, e, hb, hc _ _ h1, ?_, ?_, ?_, ?_⟩
  · rw [Nat.add_assoc]; exact hc _ _ h2
  · rw [Nat.add_assoc]; exact hc _ _ h3
  · rw [Nat.add_assoc]; exact hc _ _ h4
  · rw [Nat.add_assoc]; exact hc _ _ h5
theorem list_of5 {α : Type} (p : Nat → α → Prop) : ∀ n, (∀ i, i < n → ∃ x, p i x) → ∃ l : List α, l.length = n ∧ ∀ (i : Nat) (x : α), l[i]? = some x → p i x
  | 0, _ => ⟨[], rfl, fun i x h => by simp at h⟩
  | n + 1, h => by
    obtain ⟨l, hl, hp⟩ := list_of5 p n (fun i hi => h i (by omega))
    obtain ⟨x, hx⟩ := h n (by omega)
    refine ⟨l ++ [x], by simp [hl], fun i y hy => ?_⟩
    rcases Nat.lt_or_ge i l.length with hi | hi
    · rw [List.getElem?_append_left hi] at hy; exact hp i y hy
    · rw [List.getElem?_append_right hi] at hy
      have h0 : i - l.length = 0 := by
        rcases Nat.eq_zero_or_pos (i - l.length) with h0 | h0
        · exact h0
        · rw [List.getElem?_eq_none (by simp only [List.length_cons, List.length_nil]; omega)] at hy; cases hy
      rw [h0] at hy
      injection hy with hy
      subst hy
      have : i = n := by omega
      subst this
      exact hx
section
variable {H : Type} {enc : TypeId × Value → H} {P : Program} {W : World} {sp : Nat → Bool} {held : Bool}
theorem open_ask5 {r : Reach} {b0 : Nat} {t e ta ti : TypeId} {f0 f1 f2 : Field} {v : Value} {d : DataW H} {p : List MemPlace} (ht : P.underlying t = some (.slice e)) (he : P.underlying e = some (.struct #[f0, f1, f2])) (hta : P.underlying ta = some (.array 3 ti)) (hti : P.underlying ti = some (.int .i64)) (hE : P.cellsOf e = 5)
    (o0 : f0.offset = 0) (o1 : f1.offset = 1) (o2 : f2.offset = 4) (c0 : P.cellsOf f0.type = 1) (c1 : P.cellsOf f1.type = 3) (c2 : P.cellsOf f2.type = 1)
    (u0 : P.underlying f0.type = some (.int .i64)) (u1 : f1.type = ta) (u2 : P.underlying f2.type = some .bool) (cI : P.cellsOf ti = 1)
    (hv : Value.okWide P W r b0 t v) (h : DataW.Trod enc P W 0 sp held t v d p) :
    ∃ (a : Option Addr) (cap : Nat) (l : List A5), v = .slice a l.length cap ∧ l.length ≤ cap ∧ cap ≤ maxLen ∧ Sl W W.heap.size a (cells5 l) := by
  obtain ⟨a0, len, cap, rfl⟩ := okWide_slice ht hv
  obtain ⟨fuel, hf⟩ := h
  rcases open_slice ht hf with ⟨hcs, _⟩ | ⟨a, len', cap', m, n, D, Pl, hcs, _, hl, hm, hmm, _, hx⟩
  · simp [Value.cells] at hcs
    obtain ⟨rfl, rfl, rfl⟩ := hcs
    exact ⟨none, 0, [], rfl, by simp, by simp [maxLen], Sl.nil⟩
  · simp [Value.cells] at hcs
    obtain ⟨rfl, rfl, rfl⟩ := hcs
    have hlm : len ≤ m := by rw [hmm]; split <;> omega
    obtain ⟨l, hll, hp⟩ := list_of5 (fun i x => ∃ b off, a = ⟨b, off, none⟩ ∧ ∀ (j : Nat) (v : Value), [Value.int .i64 (x : A5).1, .int .i64 x.2.1, .int .i64 x.2.2.1, .int .i64 x.2.2.2.1, .bool x.2.2.2.2][j]? = some v → W.cell? ⟨b, off + (i * 5 + j), none⟩ = some v) len (fun i hi => by
      obtain ⟨cs, hc, htr⟩ := hx i (by omega)
      rw [hE] at hc
      obtain ⟨_, hlen, hcell⟩ := World.cells?_some hc
      obtain ⟨y0, y1, y2, k, _, _, g0, g1, g2⟩ := trod_struct3 he htr
      match cs, hlen with
      | [v0, v1, v2, v3, v4], _ =>
        rw [o0, c0] at g0
        rw [o1, c1, u1] at g1
        rw [o2, c2] at g2
        obtain ⟨q0, e0, _, _⟩ := DataW.trod_int u0 g0
        obtain ⟨q4, e4, _⟩ := DataW.trod_bool u2 g2
        obtain ⟨xs, mm, _, _, _, hlen3, hx3⟩ := DataW.trod_array hta g1
        have each : ∀ (j : Nat) (c : Value), j < 3 → [v1, v2, v3][j]? = some c → ∃ q : Int, c = .int .i64 q := by
          intro j c hj hc'
          have h1 := hx3 j hj
          rw [cI, Nat.mul_one] at h1
          have h2 : (([v1, v2, v3].drop j).take 1) = [c] := by
            rw [List.drop_eq_getElem_cons (by simpa using hj)]
            simp only [List.take_succ_cons, List.take_zero]
            rw [List.getElem?_eq_getElem (by simpa using hj)] at hc'
            injection hc' with hc'
            rw [hc']
          have h2' : ((([v0, v1, v2, v3, v4].drop 1).take 3).drop j).take 1 = [c] := h2
          rw [h2', List.getElem?_eq_getElem (by omega)] at h1
          obtain ⟨q, e0, _, hw⟩ := DataW.trod_int hti h1
          exact ⟨q, by simpa using e0⟩
        obtain ⟨q1, rfl⟩ := each 0 v1 (by omega) rfl
        obtain ⟨q2, rfl⟩ := each 1 v2 (by omega) rfl
        obtain ⟨q3, rfl⟩ := each 2 v3 (by omega) rfl
        simp at e0 e4
        subst e0 e4
        obtain ⟨b, off, rfl⟩ : ∃ b off, a = ⟨b, off, none⟩ := by
          obtain ⟨cs0, hc0, _⟩ := hx 0 (by omega)
          rw [hE] at hc0
          obtain ⟨_, hlen0, hcell0⟩ := World.cells?_some hc0
          have z0 := hcell0 0 (by omega)
          rw [add_add] at z0
          rw [List.getElem?_eq_getElem (by omega)] at z0
          exact addr_form (by simpa using z0)
        refine ⟨(q0, q1, q2, q3, q4), b, off, rfl, fun j u hj => ?_⟩
        have hj5 : j < 5 := by
          rcases Nat.lt_or_ge j 5 with h | h
          · exact h
          · rw [List.getElem?_eq_none (by simpa using h)] at hj; cases hj
        have hcj := hcell j (by omega)
        rw [add_add, add_form] at hcj
        rw [hcj]
        exact hj)
    refine ⟨some a, cap, l, by rw [hll], by omega, hm, ?_⟩
    intro hne
    cases l with
    | nil => exact absurd rfl hne
    | cons x0 l0 =>
      obtain ⟨b, off, e0, h0⟩ := hp 0 x0 rfl
      refine ⟨b, off, by rw [e0], World.block_lt_of_cell? W _ (h0 0 _ rfl), fun k y hk => ?_⟩
      obtain ⟨i, j, x, hi, rfl, _, ho⟩ := cells5_of _ k y hk
      obtain ⟨b', off', e', h1⟩ := hp i x hi
      rw [e0] at e'
      injection e' with q1 q2
      subst q1 q2
      exact h1 j y ho
end
end Go.Proofs.Ytinlnfhicnejmaa
