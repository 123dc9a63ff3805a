/-
  ARGUMENTS OPENED: what a law's walk is told of each argument that was read as data: slices of bytes and of words as plain lists, numbers as bytes and words. Over whatever program. No condition.
-/
import Derived.Test.YtjaofdalmjiliaaBase
import Derived.ProofKit
import Derived.OpenShut
import Derived.ShutString
import Derived.ChangeOld
import Derived.Deep.Slices
import Derived.SizedLaws
import Derived.Lib.SmallJoins
namespace Go.Proofs.Ytjaofdalmjiliaa
open Go.ChangeShapes Go.WideShapes Go.ChangeAt Go.RowKit Go.Deep
open Go.ChangeMaps (open_string shut_string)

section
variable {H : Type} {enc : TypeId × Value → H} {P : Program} {W : World} {sp : Nat → Bool} {held : Bool}

/-- The cells of a list of numbers of one kind. -/
def vints (k : IntKind) (l : List Int) : List Value := l.map (Value.int k)
def vwords (l : List (BitVec 64)) : List Value := l.map fun x => .int .u64 (n64 x)
theorem vints_length (k : IntKind) (l : List Int) : (vints k l).length = l.length := by simp [vints]
theorem vwords_length (l : List (BitVec 64)) : (vwords l).length = l.length := by simp [vwords]

theorem u8_of_wf {n : Int} (h : (Lit.int .u8 n).wf = true) : ∃ c : UInt8, n = (c.toNat : Int) := by
  have h' := bounds_u8 h
  refine ⟨UInt8.ofNat n.toNat, ?_⟩
  rw [UInt8.toNat_ofNat']; omega
theorem u64_of_wf {n : Int} (h : (Lit.int .u64 n).wf = true) : ∃ x : BitVec 64, n = n64 x := by
  have h' := bounds_u64 h
  refine ⟨BitVec.ofNat 64 n.toNat, ?_⟩
  unfold n64; rw [BitVec.toNat_ofNat]; omega
theorem i64_of_wf {n : Int} (h : (Lit.int .i64 n).wf = true) : -9223372036854775808 ≤ n ∧ n ≤ 9223372036854775807 := bounds_i64 h

theorem vints_u8 : ∀ (l : List Int), (∀ n ∈ l, (Lit.int .u8 n).wf = true) → ∃ m : List UInt8, vints .u8 l = vbytes m ∧ m.length = l.length
  | [], _ => ⟨[], rfl, rfl⟩
  | n :: l, h => by
    obtain ⟨c, rfl⟩ := u8_of_wf (h n (by simp))
    obtain ⟨m, hm, hl⟩ := vints_u8 l (fun x hx => h x (List.mem_cons_of_mem _ hx))
    exact ⟨c :: m, by unfold vints vbytes at *; simp only [List.map_cons, hm], by simp [hl]⟩
theorem vints_u64 : ∀ (l : List Int), (∀ n ∈ l, (Lit.int .u64 n).wf = true) → ∃ m : List (BitVec 64), vints .u64 l = vwords m ∧ m.length = l.length
  | [], _ => ⟨[], rfl, rfl⟩
  | n :: l, h => by
    obtain ⟨c, rfl⟩ := u64_of_wf (h n (by simp))
    obtain ⟨m, hm, hl⟩ := vints_u64 l (fun x hx => h x (List.mem_cons_of_mem _ hx))
    exact ⟨c :: m, by unfold vints vwords at *; simp only [List.map_cons, hm], by simp [hl]⟩

/-- A cell's address leads into a block, at no spot within a cell. -/
theorem addr_form {a : Addr} {v : Value} {w : World} (h : w.cell? (a.add 0) = some v) : ∃ b off, a = ⟨b, off, none⟩ := by
  obtain ⟨b, off, spot⟩ := a
  have hs : spot = none := by simpa [Addr.add] using World.cell?_spot h
  subst hs
  exact ⟨b, off, rfl⟩
theorem add_form (b off i : Nat) : (⟨b, off, none⟩ : Addr).add i = ⟨b, off + i, none⟩ := by
  unfold Addr.add; split <;> simp_all

/-- Cells at an address, as a slice's elements. -/
theorem Sl.of_cells {w : World} {a : Addr} {xs : List Value} (h : ∀ i x, xs[i]? = some x → w.cell? (a.add i) = some x) : Sl w w.heap.size (some a) xs := fun hn => by
  obtain ⟨x, hx⟩ : ∃ x, xs[0]? = some x := by
    cases xs with
    | nil => exact absurd rfl hn
    | cons x l => exact ⟨x, rfl⟩
  obtain ⟨b, off, rfl⟩ := addr_form (h 0 x hx)
  refine ⟨b, off, rfl, World.block_lt_of_cell? w _ (h 0 x hx), fun i y hy => ?_⟩
  rw [← add_form]; exact h i y hy

theorem open_ints_list {r : Reach} {b0 : Nat} {t e : TypeId} {k : IntKind} {v : Value} {d : DataW H} {p : List MemPlace} (ht : P.underlying t = some (.slice e)) (he : P.underlying e = some (.int k)) (hC : P.cellsOf e = 1)
    (hv : Value.okWide P W r b0 t v) (h : DataW.Trod enc P W 0 sp held t v d p) :
    ∃ (a : Option Addr) (cap : Nat) (l : List Int), v = .slice a l.length cap ∧ l.length ≤ cap ∧ cap ≤ maxLen ∧ (∀ n ∈ l, (Lit.int k n).wf = true) ∧ Sl W W.heap.size a (vints k l) := by
  obtain ⟨a0, len, cap, rfl⟩ := okWide_slice ht hv
  obtain ⟨fuel, hf⟩ := h
  rcases open_ints ht he hC hf with ⟨hcs, _⟩ | ⟨a, len', cap', zs, hcs, _, hl, hm, hz, _, hcell, hwz⟩
  · simp [Value.cells] at hcs
    obtain ⟨rfl, rfl, rfl⟩ := hcs
    exact ⟨none, 0, [], rfl, by simp, by simp [maxLen], by simp, Sl.nil⟩
  · simp [Value.cells] at hcs
    obtain ⟨rfl, rfl, rfl⟩ := hcs
    have hlen : len ≤ zs.length := by rw [hz]; split <;> omega
    have hl2 : (zs.take len).length = len := by rw [List.length_take]; omega
    refine ⟨some a, cap, zs.take len, by rw [hl2], by omega, hm, fun n hn => hwz n (List.mem_of_mem_take hn), ?_⟩
    refine Sl.of_cells fun i x hx => ?_
    simp only [vints, List.getElem?_map, List.getElem?_take] at hx
    split at hx
    · rw [List.getElem?_eq_getElem (by omega)] at hx
      simp only [Option.map_some, Option.some.injEq] at hx
      subst hx
      rw [hcell i (by omega), List.getD_eq_getElem?_getD, List.getElem?_eq_getElem (by omega)]; rfl
    · simp at hx

theorem open_bytes {r : Reach} {b0 : Nat} {t e : TypeId} {v : Value} {d : DataW H} {p : List MemPlace} (ht : P.underlying t = some (.slice e)) (he : P.underlying e = some (.int .u8)) (hC : P.cellsOf e = 1)
    (hv : Value.okWide P W r b0 t v) (h : DataW.Trod enc P W 0 sp held t v d p) :
    ∃ (a : Option Addr) (cap : Nat) (l : List UInt8), v = .slice a l.length cap ∧ l.length ≤ cap ∧ cap ≤ maxLen ∧ Sl W W.heap.size a (vbytes l) := by
  obtain ⟨a, cap, l, rfl, h1, h2, h3, h4⟩ := open_ints_list ht he hC hv h
  obtain ⟨m, hm, hl⟩ := vints_u8 l h3
  exact ⟨a, cap, m, by rw [hl], by omega, h2, by rw [← hm]; exact h4⟩

theorem open_words {r : Reach} {b0 : Nat} {t e : TypeId} {v : Value} {d : DataW H} {p : List MemPlace} (ht : P.underlying t = some (.slice e)) (he : P.underlying e = some (.int .u64)) (hC : P.cellsOf e = 1)
    (hv : Value.okWide P W r b0 t v) (h : DataW.Trod enc P W 0 sp held t v d p) :
    ∃ (a : Option Addr) (cap : Nat) (l : List (BitVec 64)), v = .slice a l.length cap ∧ l.length ≤ cap ∧ cap ≤ maxLen ∧ Sl W W.heap.size a (vwords l) := by
  obtain ⟨a, cap, l, rfl, h1, h2, h3, h4⟩ := open_ints_list ht he hC hv h
  obtain ⟨m, hm, hl⟩ := vints_u64 l h3
  exact ⟨a, cap, m, by rw [hl], by omega, h2, by rw [← hm]; exact h4⟩

theorem okWide_array {r : Reach} {b0 : Nat} {t e : TypeId} {n : Nat} {v : Value} (ht : P.underlying t = some (.array n e)) (h : Value.okWide P W r b0 t v) : ∃ cs, v = .agg cs ∧ cs.size = P.cellsOf t := by
  simp only [Value.okWide, ht] at h
  obtain ⟨cs, h1, h2, _⟩ := h
  exact ⟨cs, h1, h2⟩
theorem open_arr4 {r : Reach} {b0 : Nat} {t e : TypeId} {v : Value} {d : DataW H} {p : List MemPlace} (ht : P.underlying t = some (.array 4 e)) (he : P.underlying e = some (.int .u8)) (hE : P.cellsOf e = 1) (hC : P.cellsOf t = 4)
    (hv : Value.okWide P W r b0 t v) (h : DataW.Trod enc P W 0 sp held t v d p) :
    ∃ p0 p1 p2 p3 : UInt8, v = .agg #[.int .u8 p0.toNat, .int .u8 p1.toNat, .int .u8 p2.toNat, .int .u8 p3.toNat] := by
  obtain ⟨cs, rfl, hs⟩ := okWide_array ht hv
  obtain ⟨c0, c1, c2, c3, rfl⟩ := Joins.array4 (hs.trans hC)
  obtain ⟨fuel, hf⟩ := h
  obtain ⟨xs, m, _, _, _, hlen, hx⟩ := DataW.trod_array ht hf
  have each : ∀ (i : Nat) (c : Value), i < 4 → [c0, c1, c2, c3][i]? = some c → ∃ q : UInt8, c = .int .u8 q.toNat := by
    intro i c hi hc
    have h1 := hx i hi
    rw [hE, Nat.mul_one] at h1
    have h2 : (([c0, c1, c2, c3].drop i).take 1) = [c] := by
      rw [List.drop_eq_getElem_cons (by simpa using hi)]
      simp only [List.take_succ_cons, List.take_zero]
      rw [List.getElem?_eq_getElem (by simpa using hi)] at hc
      injection hc with hc
      rw [hc]
    have h2' : (((Value.agg #[c0, c1, c2, c3]).cells.toList.drop i).take 1) = [c] := h2
    rw [h2', List.getElem?_eq_getElem (by omega)] at h1
    obtain ⟨n, e0, _, hw⟩ := DataW.trod_int he h1
    obtain ⟨q, rfl⟩ := u8_of_wf hw
    exact ⟨q, by simpa using e0⟩
  obtain ⟨q0, rfl⟩ := each 0 c0 (by omega) rfl
  obtain ⟨q1, rfl⟩ := each 1 c1 (by omega) rfl
  obtain ⟨q2, rfl⟩ := each 2 c2 (by omega) rfl
  obtain ⟨q3, rfl⟩ := each 3 c3 (by omega) rfl
  exact ⟨q0, q1, q2, q3, rfl⟩
end
end Go.Proofs.Ytjaofdalmjiliaa
