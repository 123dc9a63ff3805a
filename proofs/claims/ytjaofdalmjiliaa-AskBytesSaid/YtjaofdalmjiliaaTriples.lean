/-
  ARGUMENTS OPENED: a slice of structs of three one-cell fields. Over whatever program. No condition.
-/
import Derived.Test.YtjaofdalmjiliaaOpen
import Derived.Deep.Strs
namespace Go.Proofs.Ytjaofdalmjiliaa
open Go.ChangeShapes Go.WideShapes Go.ChangeAt Go.RowKit Go.Deep
open Go.ChangeMaps (open_string shut_string)

/-- The cells of structs of three. -/
def cells3 : List (Value × Value × Value) → List Value
  | [] => []
  | x :: l => x.1 :: x.2.1 :: x.2.2 :: cells3 l
theorem cells3_length : ∀ l, (cells3 l).length = 3 * l.length
  | [] => rfl
  | x :: l => by simp only [cells3, List.length_cons, cells3_length l]; omega
theorem cells3_at : ∀ (l : List (Value × Value × Value)) (i : Nat) (x : Value × Value × Value), l[i]? = some x →
    (cells3 l)[i * 3]? = some x.1 ∧ (cells3 l)[i * 3 + 1]? = some x.2.1 ∧ (cells3 l)[i * 3 + 2]? = some x.2.2
  | [], i, x, h => by simp at h
  | y :: l, 0, x, h => by
    simp at h; subst h; exact ⟨rfl, rfl, rfl⟩
  | y :: l, i + 1, x, h => by
    rw [List.getElem?_cons_succ] at h
    obtain ⟨h1, h2, h3⟩ := cells3_at l i x h
    have e : (i + 1) * 3 = i * 3 + 1 + 1 + 1 := by omega
    refine ⟨?_, ?_, ?_⟩
    · rw [e]; exact h1
    · rw [e, show i * 3 + 1 + 1 + 1 + 1 = (i * 3 + 1) + 1 + 1 + 1 by omega]; exact h2
    · rw [e, show i * 3 + 1 + 1 + 1 + 2 = (i * 3 + 2) + 1 + 1 + 1 by omega]; exact h3
theorem cells3_of : ∀ (l : List (Value × Value × Value)) (k : Nat) (v : Value), (cells3 l)[k]? = some v → ∃ (i : Nat) (x : Value × Value × Value), l[i]? = some x ∧ (k = i * 3 ∧ v = x.1 ∨ k = i * 3 + 1 ∧ v = x.2.1 ∨ k = i * 3 + 2 ∧ v = x.2.2)
  | [], k, v, h => by simp [cells3] at h
  | y :: l, 0, v, h => by
    simp [cells3] at h; exact ⟨0, y, rfl, .inl ⟨rfl, h.symm⟩⟩
  | y :: l, 1, v, h => by
    simp [cells3] at h; exact ⟨0, y, rfl, .inr (.inl ⟨rfl, h.symm⟩)⟩
  | y :: l, 2, v, h => by
    simp [cells3] at h; exact ⟨0, y, rfl, .inr (.inr ⟨rfl, h.symm⟩)⟩
  | y :: l, k + 3, v, h => by
    have h' : (cells3 l)[k]? = some v := h
    obtain ⟨i, x, hx, ho⟩ := cells3_of l k v h'
    refine ⟨i + 1, x, by simpa using hx, ?_⟩
    rcases ho with ⟨h1, h2⟩ | ⟨h1, h2⟩ | ⟨h1, h2⟩
    · exact .inl ⟨by omega, h2⟩
    · exact .inr (.inl ⟨by omega, h2⟩)
    · exact .inr (.inr ⟨by omega, h2⟩)
theorem cells3_take (l : List (Value × Value × Value)) (n : Nat) : (cells3 l).take (n * 3) = cells3 (l.take n) := by
  induction l generalizing n with
  | nil => simp [cells3]
  | cons x l ih =>
    cases n with
    | zero => simp [cells3]
    | succ n =>
      rw [show (n + 1) * 3 = n * 3 + 1 + 1 + 1 by omega]
      simp only [cells3, List.take_succ_cons, ih]
theorem Sl.triple {w : World} {B : Nat} {a : Option Addr} {l : List (Value × Value × Value)} {i : Nat} (h : Sl w B a (cells3 l)) (hi : i < l.length) :
    ∃ b off, a = some ⟨b, off, none⟩ ∧ b < B ∧ w.cell? ⟨b, off + i * 3, none⟩ = some l[i].1 ∧ w.cell? ⟨b, off + i * 3 + 1, none⟩ = some l[i].2.1 ∧ w.cell? ⟨b, off + i * 3 + 2, none⟩ = some l[i].2.2 := by
  obtain ⟨h1, h2, h3⟩ := cells3_at l i l[i] (List.getElem?_eq_getElem hi)
  obtain ⟨b, off, e, hb, hc⟩ := h (fun he => by rw [he] at h1; simp at h1)
  refine ⟨b, off, e, hb, hc _ _ h1, ?_, ?_⟩
  · rw [Nat.add_assoc]; exact hc _ _ h2
  · rw [Nat.add_assoc]; exact hc _ _ h3

theorem list_of3 {α : Type} (p : Nat → α → Prop) : ∀ n, (∀ i, i < n → ∃ x, p i x) → ∃ l : List α, l.length = n ∧ ∀ (i : Nat) (x : α), l[i]? = some x → p i x
  | 0, _ => ⟨[], rfl, fun i x h => by simp at h⟩
  | n + 1, h => by
    obtain ⟨l, hl, hp⟩ := list_of3 p n (fun i hi => h i (by omega))
    obtain ⟨x, hx⟩ := h n (by omega)
    refine ⟨l ++ [x], by simp [hl], fun i y hy => ?_⟩
    rcases Nat.lt_or_ge i l.length with hi | hi
    · rw [List.getElem?_append_left hi] at hy; exact hp i y hy
    · rw [List.getElem?_append_right hi] at hy
      have h0 : i - l.length = 0 := by
        rcases Nat.eq_zero_or_pos (i - l.length) with h0 | h0
        · exact h0
        · rw [List.getElem?_eq_none (by simp only [List.length_cons, List.length_nil]; omega)] at hy; cases hy
      rw [h0] at hy
      injection hy with hy
      subst hy
      have : i = n := by omega
      subst this
      exact hx
section
variable {H : Type} {enc : TypeId × Value → H} {P : Program} {W : World} {sp : Nat → Bool} {held : Bool}
theorem open_triples {r : Reach} {b0 : Nat} {t e : TypeId} {f0 f1 f2 : Field} {v : Value} {d : DataW H} {p : List MemPlace} (ht : P.underlying t = some (.slice e)) (he : P.underlying e = some (.struct #[f0, f1, f2])) (hE : P.cellsOf e = 3)
    (o0 : f0.offset = 0) (o1 : f1.offset = 1) (o2 : f2.offset = 2) (c0 : P.cellsOf f0.type = 1) (c1 : P.cellsOf f1.type = 1) (c2 : P.cellsOf f2.type = 1)
    (hv : Value.okWide P W r b0 t v) (h : DataW.Trod enc P W 0 sp held t v d p) :
    ∃ (a : Option Addr) (cap : Nat) (l : List (Value × Value × Value)), v = .slice a l.length cap ∧ l.length ≤ cap ∧ cap ≤ maxLen ∧ Sl W W.heap.size a (cells3 l) ∧
      ∀ x ∈ l, ∃ n y0 y1 y2, DataW.trod enc P W 0 sp held n f0.type [x.1] = some y0 ∧ DataW.trod enc P W 0 sp held n f1.type [x.2.1] = some y1 ∧ DataW.trod enc P W 0 sp held n f2.type [x.2.2] = some y2 := by
  obtain ⟨a0, len, cap, rfl⟩ := okWide_slice ht hv
  obtain ⟨fuel, hf⟩ := h
  rcases open_slice ht hf with ⟨hcs, _⟩ | ⟨a, len', cap', m, n, D, Pl, hcs, _, hl, hm, hmm, _, hx⟩
  · simp [Value.cells] at hcs
    obtain ⟨rfl, rfl, rfl⟩ := hcs
    exact ⟨none, 0, [], rfl, by simp, by simp [maxLen], Sl.nil, by simp⟩
  · simp [Value.cells] at hcs
    obtain ⟨rfl, rfl, rfl⟩ := hcs
    have hlm : len ≤ m := by rw [hmm]; split <;> omega
    obtain ⟨l, hll, hp⟩ := list_of3 (fun i x => ∃ b off, a = ⟨b, off, none⟩ ∧ W.cell? ⟨b, off + i * 3, none⟩ = some (x : Value × Value × Value).1 ∧ W.cell? ⟨b, off + (i * 3 + 1), none⟩ = some x.2.1 ∧ W.cell? ⟨b, off + (i * 3 + 2), none⟩ = some x.2.2 ∧
        ∃ n y0 y1 y2, DataW.trod enc P W 0 sp held n f0.type [x.1] = some y0 ∧ DataW.trod enc P W 0 sp held n f1.type [x.2.1] = some y1 ∧ DataW.trod enc P W 0 sp held n f2.type [x.2.2] = some y2) len (fun i hi => by
      obtain ⟨cs, hc, htr⟩ := hx i (by omega)
      rw [hE] at hc
      obtain ⟨_, hlen, hcell⟩ := World.cells?_some hc
      obtain ⟨y0, y1, y2, k, _, _, g0, g1, g2⟩ := trod_struct3 he htr
      match cs, hlen with
      | [v0, v1, v2], _ =>
        rw [o0, c0] at g0
        rw [o1, c1] at g1
        rw [o2, c2] at g2
        have e0 := hcell 0 (by omega)
        have e1 := hcell 1 (by omega)
        have e2 := hcell 2 (by omega)
        rw [add_add] at e0 e1 e2
        obtain ⟨b, off, rfl⟩ : ∃ b off, a = ⟨b, off, none⟩ := by
          obtain ⟨cs0, hc0, _⟩ := hx 0 (by omega)
          rw [hE] at hc0
          obtain ⟨_, hlen0, hcell0⟩ := World.cells?_some hc0
          have z0 := hcell0 0 (by omega)
          rw [add_add] at z0
          rw [List.getElem?_eq_getElem (by omega)] at z0
          exact addr_form (by simpa using z0)
        rw [add_form] at e0 e1 e2
        exact ⟨(v0, v1, v2), b, off, rfl, by simpa using e0, by simpa using e1, by simpa using e2, k, y0, y1, y2, by simpa using g0, by simpa using g1, by simpa using g2⟩)
    refine ⟨some a, cap, l, by rw [hll], by omega, hm, ?_, fun x hx' => ?_⟩
    · intro hne
      cases l with
      | nil => exact absurd rfl hne
      | cons x0 l0 =>
        obtain ⟨b, off, e0, h0, _⟩ := hp 0 x0 rfl
        refine ⟨b, off, by rw [e0], World.block_lt_of_cell? W _ h0, fun k y hk => ?_⟩
        obtain ⟨i, x, hi, ho⟩ := cells3_of _ k y hk
        obtain ⟨b', off', e', h1, h2, h3, _⟩ := hp i x hi
        rw [e0] at e'
        injection e' with q1 q2
        subst q1 q2
        rcases ho with ⟨rfl, rfl⟩ | ⟨rfl, rfl⟩ | ⟨rfl, rfl⟩
        · exact h1
        · exact h2
        · exact h3
    · obtain ⟨i, hi⟩ := List.mem_iff_getElem?.1 hx'
      obtain ⟨_, _, _, _, _, _, hn⟩ := hp i x hi
      exact hn
/-- Structs of three numbers. -/
theorem open_asks {r : Reach} {b0 : Nat} {t e : TypeId} {f0 f1 f2 : Field} {v : Value} {d : DataW H} {p : List MemPlace} (ht : P.underlying t = some (.slice e)) (he : P.underlying e = some (.struct #[f0, f1, f2])) (hE : P.cellsOf e = 3)
    (o0 : f0.offset = 0) (o1 : f1.offset = 1) (o2 : f2.offset = 2) (c0 : P.cellsOf f0.type = 1) (c1 : P.cellsOf f1.type = 1) (c2 : P.cellsOf f2.type = 1)
    (u0 : P.underlying f0.type = some (.int .i64)) (u1 : P.underlying f1.type = some (.int .i64)) (u2 : P.underlying f2.type = some (.int .i64))
    (hv : Value.okWide P W r b0 t v) (h : DataW.Trod enc P W 0 sp held t v d p) :
    ∃ (a : Option Addr) (cap : Nat) (l : List (Value × Value × Value)), v = .slice a l.length cap ∧ l.length ≤ cap ∧ cap ≤ maxLen ∧ Sl W W.heap.size a (cells3 l) ∧
      ∀ x ∈ l, ∃ k a b : Int, x = (.int .i64 k, .int .i64 a, .int .i64 b) := by
  obtain ⟨a, cap, l, h1, h2, h3, h4, h5⟩ := open_triples ht he hE o0 o1 o2 c0 c1 c2 hv h
  refine ⟨a, cap, l, h1, h2, h3, h4, fun x hx => ?_⟩
  obtain ⟨n, y0, y1, y2, g0, g1, g2⟩ := h5 x hx
  obtain ⟨q0, e0, _, _⟩ := DataW.trod_int u0 g0
  obtain ⟨q1, e1, _, _⟩ := DataW.trod_int u1 g1
  obtain ⟨q2, e2, _, _⟩ := DataW.trod_int u2 g2
  obtain ⟨x0, x1, x2⟩ := x
  simp at e0 e1 e2
  exact ⟨q0, q1, q2, by rw [e0, e1, e2]⟩
/-- Structs of a truth, a number and a text. -/
theorem open_items {r : Reach} {b0 : Nat} {t e : TypeId} {f0 f1 f2 : Field} {v : Value} {d : DataW H} {p : List MemPlace} (ht : P.underlying t = some (.slice e)) (he : P.underlying e = some (.struct #[f0, f1, f2])) (hE : P.cellsOf e = 3)
    (o0 : f0.offset = 0) (o1 : f1.offset = 1) (o2 : f2.offset = 2) (c0 : P.cellsOf f0.type = 1) (c1 : P.cellsOf f1.type = 1) (c2 : P.cellsOf f2.type = 1)
    (u0 : P.underlying f0.type = some .bool) (u1 : P.underlying f1.type = some (.int .i64)) (u2 : P.underlying f2.type = some .string)
    (hv : Value.okWide P W r b0 t v) (h : DataW.Trod enc P W 0 sp held t v d p) :
    ∃ (a : Option Addr) (cap : Nat) (l : List (Value × Value × Value)), v = .slice a l.length cap ∧ l.length ≤ cap ∧ cap ≤ maxLen ∧ Sl W W.heap.size a (cells3 l) ∧
      ∀ x ∈ l, ∃ (b : Bool) (n : Int) (s : ByteArray), x = (.bool b, .int .i64 n, .string s) ∧ -9223372036854775808 ≤ n ∧ n ≤ 9223372036854775807 ∧ s.size ≤ maxLen := by
  obtain ⟨a, cap, l, h1, h2, h3, h4, h5⟩ := open_triples ht he hE o0 o1 o2 c0 c1 c2 hv h
  refine ⟨a, cap, l, h1, h2, h3, h4, fun x hx => ?_⟩
  obtain ⟨n, y0, y1, y2, g0, g1, g2⟩ := h5 x hx
  obtain ⟨q0, e0, _⟩ := DataW.trod_bool u0 g0
  obtain ⟨q1, e1, _, w1⟩ := DataW.trod_int u1 g1
  obtain ⟨q2, e2, _, hs⟩ := DataW.trod_string u2 g2
  obtain ⟨x0, x1, x2⟩ := x
  simp at e0 e1 e2
  obtain ⟨lo, hi⟩ := i64_of_wf w1
  exact ⟨q0, q1, q2, by rw [e0, e1, e2], lo, hi, hs⟩
end
end Go.Proofs.Ytjaofdalmjiliaa
