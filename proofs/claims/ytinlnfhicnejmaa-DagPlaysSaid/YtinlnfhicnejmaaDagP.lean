/-
  PLAIN WORDS OF package dag. No program.
-/
import Derived.Test.YtinlnfhicnejmaaBase
namespace Go.Proofs.Ytinlnfhicnejmaa
set_option linter.unusedVariables false

/-- A branch: its atom and its three ways. -/
abbrev Br := Int × Int × Int × Int
def brV (b : Br) : Value := .agg #[.int .i64 b.1, .int .i64 b.2.1, .int .i64 b.2.2.1, .int .i64 b.2.2.2]
def cells4 : List Br → List Value
  | [] => []
  | x :: l => .int .i64 x.1 :: .int .i64 x.2.1 :: .int .i64 x.2.2.1 :: .int .i64 x.2.2.2 :: cells4 l
theorem cells4_length : ∀ l, (cells4 l).length = l.length * 4
  | [] => rfl
  | x :: l => by simp only [cells4, List.length_cons, cells4_length l]; omega
theorem cells4_append : ∀ (l m : List Br), cells4 (l ++ m) = cells4 l ++ cells4 m
  | [], m => rfl
  | x :: l, m => by simp only [List.cons_append, cells4, cells4_append l m]
theorem cells4_one (l : List Br) : ∀ v ∈ cells4 l, v.oneCell' = true := by
  induction l with
  | nil => simp [cells4]
  | cons x l ih =>
    intro v hv
    simp only [cells4, List.mem_cons] at hv
    rcases hv with rfl | rfl | rfl | rfl | hv
    · rfl
    · rfl
    · rfl
    · rfl
    · exact ih v hv
theorem cells4_at : ∀ (l : List Br) (i : Nat) (x : Br), l[i]? = some x →
    (cells4 l)[i * 4]? = some (.int .i64 x.1) ∧ (cells4 l)[i * 4 + 1]? = some (.int .i64 x.2.1) ∧ (cells4 l)[i * 4 + 2]? = some (.int .i64 x.2.2.1) ∧ (cells4 l)[i * 4 + 3]? = some (.int .i64 x.2.2.2)
  | [], i, x, h => by simp at h
  | y :: l, 0, x, h => by
    simp at h; subst h; exact ⟨rfl, rfl, rfl, rfl⟩
  | y :: l, i + 1, x, h => by
    rw [List.getElem?_cons_succ] at h
    obtain ⟨h1, h2, h3, h4⟩ := cells4_at l i x h
    have e : (i + 1) * 4 = i * 4 + 1 + 1 + 1 + 1 := by omega
    refine ⟨?_, ?_, ?_, ?_⟩
    · rw [e]; exact h1
    · rw [e, show i * 4 + 1 + 1 + 1 + 1 + 1 = (i * 4 + 1) + 1 + 1 + 1 + 1 by omega]; exact h2
    · rw [e, show i * 4 + 1 + 1 + 1 + 1 + 2 = (i * 4 + 2) + 1 + 1 + 1 + 1 by omega]; exact h3
    · rw [e, show i * 4 + 1 + 1 + 1 + 1 + 3 = (i * 4 + 3) + 1 + 1 + 1 + 1 by omega]; exact h4
theorem Sl.branch {w : World} {B : Nat} {a : Option Addr} {l : List Br} {i : Nat} (h : Sl w B a (cells4 l)) (hi : i < l.length) :
    ∃ b off, a = some ⟨b, off, none⟩ ∧ b < B ∧ w.cell? ⟨b, off + i * 4, none⟩ = some (.int .i64 l[i].1) ∧ w.cell? ⟨b, off + i * 4 + 1, none⟩ = some (.int .i64 l[i].2.1) ∧ w.cell? ⟨b, off + i * 4 + 2, none⟩ = some (.int .i64 l[i].2.2.1) ∧ w.cell? ⟨b, off + i * 4 + 3, none⟩ = some (.int .i64 l[i].2.2.2) := by
  obtain ⟨h1, h2, h3, h4⟩ := cells4_at l i l[i] (List.getElem?_eq_getElem hi)
  obtain ⟨b, off, e, hb, hc⟩ := h (fun he => by rw [he] at h1; simp at h1)
  refine ⟨b, off, e, hb, hc _ _ h1, ?_, ?_, ?_⟩
  · rw [Nat.add_assoc]; exact hc _ _ h2
  · rw [Nat.add_assoc]; exact hc _ _ h3
  · rw [Nat.add_assoc]; exact hc _ _ h4
/-- Where a branch is, counted from k; -1: nowhere. -/
def idxP (b : Br) : List Br → Nat → Int
  | [], _ => -1
  | x :: l, k => if x = b then (k : Int) else idxP b l (k + 1)
theorem idxP_ge (b : Br) : ∀ (l : List Br) (k : Nat), idxP b l k = -1 ∨ (k : Int) ≤ idxP b l k
  | [], k => .inl rfl
  | x :: l, k => by
    unfold idxP
    split
    · exact .inr (Int.le_refl _)
    · rcases idxP_ge b l (k + 1) with h | h
      · exact .inl h
      · exact .inr (by omega)
/-- May a branch of that atom go that way? -/
def mayP (l : List Br) (atom way : Int) : Bool :=
  if way < 0 then decide (-1048576 ≤ way) else match l[way.toNat]? with
  | some b => decide (atom < b.1)
  | none => false
theorem mayP_neg {l : List Br} {atom way : Int} (h : way < 0) : mayP l atom way = decide (-1048576 ≤ way) := by unfold mayP; rw [if_pos h]
theorem mayP_at {l : List Br} {atom : Int} {k : Nat} (h : k < l.length) : mayP l atom (k : Int) = decide (atom < l[k].1) := by
  unfold mayP; rw [if_neg (by omega), Int.toNat_natCast, List.getElem?_eq_getElem h]
theorem mayP_out {l : List Br} {atom : Int} {k : Nat} (h : l.length ≤ k) : mayP l atom (k : Int) = false := by
  unfold mayP; rw [if_neg (by omega), Int.toNat_natCast, List.getElem?_eq_none h]
/-- Make's answers, and the branches behind it. -/
def makeP (most : Nat) (l : List Br) (b : Br) : Int × Int × List Br :=
  if b.1 < 0 ∨ 64 ≤ b.1 then (0, 1, l)
  else if ¬ (mayP l b.1 b.2.1 = true ∧ mayP l b.1 b.2.2.1 = true ∧ mayP l b.1 b.2.2.2 = true) then (0, 1, l)
  else if b.2.2.1 = b.2.1 ∧ b.2.2.2 = b.2.1 then (b.2.1, 0, l)
  else if 0 ≤ idxP b l 0 then (idxP b l 0, 0, l)
  else if most ≤ l.length then (0, 6, l)
  else ((l.length : Int), 0, l ++ [b])
end Go.Proofs.Ytinlnfhicnejmaa
