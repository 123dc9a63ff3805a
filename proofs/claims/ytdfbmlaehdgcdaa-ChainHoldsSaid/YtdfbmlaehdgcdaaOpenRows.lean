/-
  ARGUMENTS OPENED: a slice of slices of bytes, as plain records; a slice of words. Over whatever program. No condition.
-/
import Derived.Test.YtdfbmlaehdgcdaaOpen
import Derived.Test.YtdfbmlaehdgcdaaChainSums
namespace Go.Proofs.Ytdfbmlaehdgcdaa
open Go.ChangeShapes Go.WideShapes Go.ChangeAt Go.RowKit Go.Deep

theorem list_of {α : Type} (p : Nat → α → Prop) : ∀ n, (∀ i, i < n → ∃ x, p i x) → ∃ l : List α, l.length = n ∧ ∀ (i : Nat) (x : α), l[i]? = some x → p i x
  | 0, _ => ⟨[], rfl, fun i x h => by simp at h⟩
  | n + 1, h => by
    obtain ⟨l, hl, hp⟩ := list_of p n (fun i hi => h i (by omega))
    obtain ⟨x, hx⟩ := h n (by omega)
    refine ⟨l ++ [x], by simp [hl], fun i y hy => ?_⟩
    rcases Nat.lt_or_ge i l.length with hi | hi
    · rw [List.getElem?_append_left hi] at hy; exact hp i y hy
    · rw [List.getElem?_append_right hi] at hy
      have h0 : i - l.length = 0 := by
        rcases Nat.eq_zero_or_pos (i - l.length) with h0 | h0
        · exact h0
        · rw [List.getElem?_eq_none (by simp only [List.length_cons, List.length_nil]; omega)] at hy; cases hy
      rw [h0] at hy
      injection hy with hy
      subst hy
      have : i = n := by omega
      subst this
      exact hx

section
variable {H : Type} {enc : TypeId × Value → H} {P : Program} {W : World} {sp : Nat → Bool} {held : Bool}
/-- One element: a slice of bytes in a cell. -/
theorem open_bytes_cell {e q : TypeId} {fuel : Nat} {v : Value} {x : DataW H × List MemPlace} (he : P.underlying e = some (.slice q)) (hq : P.underlying q = some (.int .u8)) (hQ : P.cellsOf q = 1)
    (h : DataW.trod enc P W 0 sp held fuel e [v] = some x) : ∃ (a : Option Addr) (c : Nat) (l : List UInt8), v = .slice a l.length c ∧ l.length ≤ c ∧ Sl W W.heap.size a (vbytes l) := by
  rcases open_ints he hq hQ h with ⟨hcs, _⟩ | ⟨a, len, cap, zs, hcs, _, hl, hm, hz, _, hcell, hwz⟩
  · simp at hcs
    subst hcs
    exact ⟨none, 0, [], rfl, by simp, Sl.nil⟩
  · simp at hcs
    subst hcs
    have hlen : len ≤ zs.length := by rw [hz]; split <;> omega
    have hl2 : (zs.take len).length = len := by rw [List.length_take]; omega
    obtain ⟨m, hm2, hml⟩ := vints_u8 (zs.take len) (fun n hn => hwz n (List.mem_of_mem_take hn))
    refine ⟨some a, cap, m, by rw [hml, hl2], by omega, ?_⟩
    rw [← hm2]
    refine Sl.of_cells fun i x hx => ?_
    simp only [vints, List.getElem?_map, List.getElem?_take] at hx
    split at hx
    · rw [List.getElem?_eq_getElem (by omega)] at hx
      simp only [Option.map_some, Option.some.injEq] at hx
      subst hx
      rw [hcell i (by omega), List.getD_eq_getElem?_getD, List.getElem?_eq_getElem (by omega)]; rfl
    · simp at hx

theorem open_rows {r : Reach} {b0 : Nat} {t e q : TypeId} {v : Value} {d : DataW H} {p : List MemPlace} (ht : P.underlying t = some (.slice e)) (he : P.underlying e = some (.slice q)) (hq : P.underlying q = some (.int .u8)) (hE : P.cellsOf e = 1) (hQ : P.cellsOf q = 1)
    (hv : Value.okWide P W r b0 t v) (h : DataW.Trod enc P W 0 sp held t v d p) :
    ∃ (a : Option Addr) (cap : Nat) (l : List (List UInt8)), v = .slice a l.length cap ∧ l.length ≤ cap ∧ cap ≤ maxLen ∧ Rws W W.heap.size a l := by
  obtain ⟨a0, len, cap, rfl⟩ := okWide_slice ht hv
  obtain ⟨fuel, hf⟩ := h
  rcases open_slice1 ht hE hf with ⟨hcs, _⟩ | ⟨a, len', cap', m, n, V, D, Pl, hcs, _, hl, hm, hmm, _, hx⟩
  · simp [Value.cells] at hcs
    obtain ⟨rfl, rfl, rfl⟩ := hcs
    exact ⟨none, 0, [], rfl, by simp, by simp [maxLen], fun i x h => by simp at h⟩
  · simp [Value.cells] at hcs
    obtain ⟨rfl, rfl, rfl⟩ := hcs
    have hlm : len ≤ m := by rw [hmm]; split <;> omega
    obtain ⟨l, hll, hp⟩ := list_of (fun i x => ∃ b off a' c, a = ⟨b, off, none⟩ ∧ b < W.heap.size ∧ W.cell? ⟨b, off + i, none⟩ = some (.slice a' (x : List UInt8).length c) ∧ x.length ≤ c ∧ Sl W W.heap.size a' (vbytes x)) len (fun i hi => by
      obtain ⟨hc, htr⟩ := hx i (by omega)
      obtain ⟨hc0, _⟩ := hx 0 (by omega)
      obtain ⟨b, off, rfl⟩ := addr_form hc0
      obtain ⟨a', c, x, hv', hlc, hs⟩ := open_bytes_cell he hq hQ htr
      rw [add_form] at hc
      refine ⟨x, b, off, a', c, rfl, ?_, by rw [hc, hv'], hlc, hs⟩
      exact World.block_lt_of_cell? W _ hc)
    refine ⟨some a, cap, l, by rw [hll], by omega, hm, fun i x hx' => ?_⟩
    obtain ⟨b, off, a', c, e1, h1, h2, h3, h4⟩ := hp i x hx'
    exact ⟨b, off, a', c, by rw [e1], h1, h2, h3, h4⟩
end
theorem vwords_vw (l : List (BitVec 64)) : vwords l = vw l := rfl
end Go.Proofs.Ytdfbmlaehdgcdaa
