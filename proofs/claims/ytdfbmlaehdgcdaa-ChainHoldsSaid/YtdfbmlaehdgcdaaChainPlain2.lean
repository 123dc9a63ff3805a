/-
  PLAIN MATHEMATICS OF CHAPTER 21, with no program in sight: the sums of records, where two rows of sums part, where two rows of records clash, and THE CHAIN: rows with one last sum are the same, or clash. No condition.
-/
import Derived.Test.YtdfbmlaehdgcdaaChainPlain
namespace Go.Proofs.Ytdfbmlaehdgcdaa.Fnv
/-- The number behind records. -/
def after (p : BitVec 64) (l : List (List UInt8)) : BitVec 64 := l.foldl chain p
theorem after_snoc (p : BitVec 64) (l : List (List UInt8)) (x : List UInt8) : after p (l ++ [x]) = chain (after p l) x := by unfold after; rw [List.foldl_append]; rfl
/-- The sums of records. -/
def sums : BitVec 64 → List (List UInt8) → List (BitVec 64)
  | _, [] => []
  | p, x :: l => chain p x :: sums (chain p x) l
theorem sums_length : ∀ (l : List (List UInt8)) (p : BitVec 64), (sums p l).length = l.length
  | [], _ => rfl
  | x :: l, p => by simp [sums, sums_length l]
theorem sums_append : ∀ (l m : List (List UInt8)) (p : BitVec 64), sums p (l ++ m) = sums p l ++ sums (after p l) m
  | [], m, p => rfl
  | x :: l, m, p => by simp only [List.cons_append, sums, sums_append l m]; rfl
theorem sums_take (l : List (List UInt8)) (k : Nat) (p : BitVec 64) : (sums p l).take k = sums p (l.take k) := by
  induction l generalizing k p with
  | nil => simp [sums]
  | cons x l ih => cases k with
    | zero => rfl
    | succ k => simp only [sums, List.take_succ_cons, ih]
theorem sums_step (l : List (List UInt8)) (k : Nat) (hk : k < l.length) : sums 0#64 (l.take (k + 1)) = sums 0#64 (l.take k) ++ [chain (after 0#64 (l.take k)) l[k]] := by
  rw [List.take_add_one, List.getElem?_eq_getElem hk, Option.toList_some, sums_append]; rfl
theorem after_step (l : List (List UInt8)) (k : Nat) (hk : k < l.length) : after 0#64 (l.take (k + 1)) = chain (after 0#64 (l.take k)) l[k] := by
  rw [List.take_add_one, List.getElem?_eq_getElem hk, Option.toList_some, after_snoc]
theorem sums_at (l : List (List UInt8)) (k : Nat) (hk : k < l.length) (h : k < (sums 0#64 l).length) : (sums 0#64 l)[k] = after 0#64 (l.take (k + 1)) := by
  have h1 : (sums 0#64 l)[k]? = some ((sums 0#64 l)[k]) := List.getElem?_eq_getElem h
  have h2 : ((sums 0#64 l).take (k + 1))[k]? = (sums 0#64 l)[k]? := by rw [List.getElem?_take, if_pos (by omega)]
  rw [sums_take, sums_step l k hk, List.getElem?_append_right (by rw [sums_length]; simp; omega)] at h2
  rw [show k - (sums 0#64 (l.take k)).length = 0 by rw [sums_length]; simp; omega, h1] at h2
  injection h2 with h2
  rw [after_step l k hk, ← h2]
/-- The number ahead of a place. -/
def ahead (s : List (BitVec 64)) (i : Nat) : BitVec 64 := if i = 0 then 0#64 else s.getD (i - 1) 0#64
theorem ahead_sums (l : List (List UInt8)) (k : Nat) (hk : k ≤ l.length) : ahead (sums 0#64 l) k = after 0#64 (l.take k) := by
  unfold ahead
  split
  · rename_i h; subst h; rfl
  · rename_i h
    have h1 : k - 1 < l.length := by omega
    have h2 : k - 1 < (sums 0#64 l).length := by rw [sums_length]; exact h1
    rw [List.getD_eq_getElem?_getD, List.getElem?_eq_getElem h2, Option.getD_some, sums_at l (k - 1) h1 h2, show k - 1 + 1 = k by omega]

/-- How far two rows go together. -/
def together {α : Type} [BEq α] : List α → List α → Nat
  | x :: a, y :: b => if x == y then together a b + 1 else 0
  | _, _ => 0
/-- The first place at which two rows part; -1: nowhere. -/
def part {α : Type} [BEq α] (a b : List α) : Int := if a == b then -1 else (together a b : Int)
theorem together_at {α : Type} [BEq α] [LawfulBEq α] : ∀ (a b : List α) (k : Nat), a.take k = b.take k → k ≤ a.length → k ≤ b.length → (∀ (ha : k < a.length) (hb : k < b.length), a[k] ≠ b[k]) → together a b = k
  | [], b, k, _, h1, _, _ => by simp at h1; subst h1; simp [together]
  | x :: a, [], k, _, _, h2, _ => by simp at h2; subst h2; simp [together]
  | x :: a, y :: b, k, h, h1, h2, h3 => by
    cases k with
    | zero => have := h3 (by simp) (by simp); simp at this; simp [together, this]
    | succ k =>
      simp only [List.take_succ_cons, List.cons.injEq] at h
      obtain ⟨rfl, h⟩ := h
      simp only [together, beq_self_eq_true, if_true]
      rw [together_at a b k h (by simpa using h1) (by simpa using h2) (fun ha hb => by have := h3 (by simpa using ha) (by simpa using hb); simpa using this)]
theorem part_no {α : Type} [BEq α] [LawfulBEq α] (a b : List α) (k : Nat) (h : a.take k = b.take k) (h1 : k ≤ a.length) (h2 : k ≤ b.length) (hn : a ≠ b)
    (h3 : ∀ (ha : k < a.length) (hb : k < b.length), a[k] ≠ b[k]) : part a b = (k : Int) := by
  unfold part; rw [if_neg (by simpa using hn), together_at a b k h h1 h2 h3]
theorem part_yes {α : Type} [BEq α] [LawfulBEq α] (a : List α) : part a a = -1 := by unfold part; simp
theorem part_lt {α : Type} [BEq α] [LawfulBEq α] : ∀ (a b : List α), a.length = b.length → a ≠ b → together a b < a.length
  | [], [], _, h => absurd rfl h
  | x :: a, y :: b, hl, h => by
    simp only [together, List.length_cons]
    split
    · rename_i hxy
      have := part_lt a b (by simpa using hl) (fun e => h (by rw [beq_iff_eq.1 hxy, e]))
      omega
    · omega

/-- Do two rows come to one sum at a place by unlike things? -/
def clashAt (a b : List (List UInt8)) (i : Nat) : Bool :=
  (sums 0#64 a).getD i 0#64 == (sums 0#64 b).getD i 0#64 && (ahead (sums 0#64 a) i != ahead (sums 0#64 b) i || !(a.getD i [] == b.getD i []))
/-- The first such place; -1: none. -/
def clash (a b : List (List UInt8)) : Int :=
  match (List.range (min a.length b.length)).find? (clashAt a b) with
  | some i => (i : Int)
  | none => -1
theorem find_first (p : Nat → Bool) (n k : Nat) (h : ∀ j, j < k → p j = false) (hk : k < n) (hp : p k = true) : (List.range n).find? p = some k := by
  rw [List.find?_range_eq_some]
  exact ⟨hp, by simpa using hk, fun j hj => by rw [h j hj]; rfl⟩
theorem find_none (p : Nat → Bool) (n : Nat) (h : ∀ j, j < n → p j = false) : (List.range n).find? p = none := by
  rw [List.find?_eq_none]
  intro j hj
  rw [h j (by simpa using hj)]
  simp
theorem clash_first (a b : List (List UInt8)) (k : Nat) (h : ∀ j, j < k → clashAt a b j = false) (hk : k < min a.length b.length) (hp : clashAt a b k = true) : clash a b = (k : Int) := by
  unfold clash; rw [find_first _ _ k h hk hp]
theorem clash_none (a b : List (List UInt8)) (h : ∀ j, j < min a.length b.length → clashAt a b j = false) : clash a b = -1 := by
  unfold clash; rw [find_none _ _ h]
theorem clashAt_at (a b : List (List UInt8)) (k : Nat) (ha : k < a.length) (hb : k < b.length) (h1 : k < (sums 0#64 a).length) (h2 : k < (sums 0#64 b).length) :
    clashAt a b k = ((sums 0#64 a)[k] == (sums 0#64 b)[k] && (ahead (sums 0#64 a) k != ahead (sums 0#64 b) k || !(a[k] == b[k]))) := by
  unfold clashAt
  rw [List.getD_eq_getElem?_getD, List.getElem?_eq_getElem h1, List.getD_eq_getElem?_getD (l := sums 0#64 b), List.getElem?_eq_getElem h2, Option.getD_some, Option.getD_some,
    List.getD_eq_getElem?_getD, List.getElem?_eq_getElem ha, List.getD_eq_getElem?_getD, List.getElem?_eq_getElem hb, Option.getD_some, Option.getD_some]
/-- A clash, as the law reckons it anew. -/
theorem clashAt_law (a b : List (List UInt8)) (k : Nat) (ha : k < a.length) (hb : k < b.length) :
    clashAt a b k = ((after 0#64 (a.take k) != after 0#64 (b.take k) || !(a[k] == b[k])) && chain (after 0#64 (a.take k)) a[k] == chain (after 0#64 (b.take k)) b[k]) := by
  have h1 : k < (sums 0#64 a).length := by rw [sums_length]; exact ha
  have h2 : k < (sums 0#64 b).length := by rw [sums_length]; exact hb
  unfold clashAt
  rw [List.getD_eq_getElem?_getD, List.getElem?_eq_getElem h1, List.getD_eq_getElem?_getD (l := sums 0#64 b), List.getElem?_eq_getElem h2, Option.getD_some, Option.getD_some,
    sums_at a k ha h1, sums_at b k hb h2, ahead_sums a k (by omega), ahead_sums b k (by omega), List.getD_eq_getElem?_getD, List.getElem?_eq_getElem ha, List.getD_eq_getElem?_getD, List.getElem?_eq_getElem hb,
    Option.getD_some, Option.getD_some, after_step a k ha, after_step b k hb, Bool.and_comm]
/-- THE CHAIN: rows of as many records with one number behind them, and no clash: they are the same. -/
theorem chain_holds : ∀ (n : Nat) (a b : List (List UInt8)), a.length = n → b.length = n → after 0#64 a = after 0#64 b → (∀ k, k < n → clashAt a b k = false) → a = b := by
  intro n
  induction n with
  | zero => intro a b ha hb _ _; rw [List.eq_nil_of_length_eq_zero ha, List.eq_nil_of_length_eq_zero hb]
  | succ n ih =>
    intro a b ha hb h hc
    have hna : n < a.length := by omega
    have hnb : n < b.length := by omega
    have ea : a = a.take n ++ [a[n]] := by
      conv => lhs; rw [← List.take_length (l := a), ha]
      rw [List.take_add_one, List.getElem?_eq_getElem hna]; rfl
    have eb : b = b.take n ++ [b[n]] := by
      conv => lhs; rw [← List.take_length (l := b), hb]
      rw [List.take_add_one, List.getElem?_eq_getElem hnb]; rfl
    have h1 := hc n (by omega)
    rw [clashAt_law a b n hna hnb] at h1
    have h2 : chain (after 0#64 (a.take n)) a[n] = chain (after 0#64 (b.take n)) b[n] := by
      rw [ea, eb, after_snoc, after_snoc] at h; exact h
    rw [beq_iff_eq.2 h2, Bool.and_true, Bool.or_eq_false_iff] at h1
    have h3 : after 0#64 (a.take n) = after 0#64 (b.take n) := by simpa using h1.1
    have h4 : a[n] = b[n] := by simpa using h1.2
    have h5 := ih (a.take n) (b.take n) (by simp; omega) (by simp; omega) h3 (fun k hk => by
      have h6 := hc k (by omega)
      rw [clashAt_law a b k (by omega) (by omega)] at h6
      rw [clashAt_law _ _ k (by simp; omega) (by simp; omega)]
      simpa [List.take_take, Nat.min_eq_left (Nat.le_of_lt hk)] using h6)
    rw [ea, eb, h5, h4]
theorem after_of_sums (a b : List (List UInt8)) (h : sums 0#64 a = sums 0#64 b) : after 0#64 a = after 0#64 b := by
  have hl : a.length = b.length := by rw [← sums_length a 0#64, h, sums_length]
  have h1 := ahead_sums a a.length (Nat.le_refl _)
  have h2 := ahead_sums b b.length (Nat.le_refl _)
  rw [List.take_length] at h1 h2
  rw [← h1, ← h2, h, hl]
theorem exists_first (p : Nat → Bool) : ∀ n, (∃ k, k < n ∧ p k = true) → ∃ k, k < n ∧ p k = true ∧ ∀ j, j < k → p j = false
  | 0, ⟨k, hk, _⟩ => by omega
  | n + 1, h => by
    by_cases hn : ∃ k, k < n ∧ p k = true
    · obtain ⟨k, hk, hp, hj⟩ := exists_first p n hn; exact ⟨k, by omega, hp, hj⟩
    · obtain ⟨k, hk, hp⟩ := h
      have : k = n := by
        rcases Nat.lt_or_ge k n with h' | h'
        · exact absurd ⟨k, h', hp⟩ hn
        · omega
      subst this
      exact ⟨k, by omega, hp, fun j hj => by
        cases hpj : p j with
        | false => rfl
        | true => exact absurd ⟨j, hj, hpj⟩ hn⟩
/-- Unlike rows of as many records with one number behind them clash, and the clash is found. -/
theorem clash_found (a b : List (List UInt8)) (hl : a.length = b.length) (h : after 0#64 a = after 0#64 b) (hn : a ≠ b) :
    ∃ k : Nat, clash a b = (k : Int) ∧ ∃ (ha : k < a.length) (hb : k < b.length), ((after 0#64 (a.take k) != after 0#64 (b.take k) || !(a[k] == b[k])) && chain (after 0#64 (a.take k)) a[k] == chain (after 0#64 (b.take k)) b[k]) = true := by
  have hex : ∃ k, k < a.length ∧ clashAt a b k = true := by
    refine Classical.byContradiction fun hno => hn (chain_holds a.length a b rfl hl.symm h fun k hk => ?_)
    cases hc : clashAt a b k with
    | false => rfl
    | true => exact absurd ⟨k, hk, hc⟩ hno
  obtain ⟨k, hk, hp, hj⟩ := exists_first (clashAt a b) a.length hex
  refine ⟨k, clash_first a b k hj (by omega) hp, hk, by omega, ?_⟩
  rw [← clashAt_law a b k hk (by omega)]; exact hp
end Go.Proofs.Ytdfbmlaehdgcdaa.Fnv
