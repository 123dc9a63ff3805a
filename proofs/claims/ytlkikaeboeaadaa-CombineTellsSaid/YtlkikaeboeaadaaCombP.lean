/-
  PLAIN WORDS of package combine: what many decisions make, over lists of marks.
-/
import Derived.Test.YtlkikaeboeaadaaCombA
namespace Go.Proofs.Ytlkikaeboeaadaa
open Go.RowKit
set_option linter.unusedVariables false

section
variable {α : Type}
/-- None of the first k is so. -/
def noneTo (p : α → Bool) (l : List α) (k : Nat) : Prop := ∀ (i : Nat) (h : i < l.length), i < k → p l[i] = false
theorem noneTo_zero (p : α → Bool) (l : List α) : noneTo p l 0 := fun i h hi => by omega
theorem noneTo_succ {p : α → Bool} {l : List α} {k : Nat} (h : noneTo p l k) (hk : k < l.length) (hp : p l[k] = false) : noneTo p l (k + 1) := fun i hi hik => by
  rcases Nat.lt_or_ge i k with hlt | hge
  · exact h i hi hlt
  · obtain rfl : i = k := by omega
    exact hp
/-- The place of the first that is so; -1. -/
def idxP (p : α → Bool) (l : List α) : Int := if l.findIdx p < l.length then (l.findIdx p : Int) else -1
theorem idx_hit {p : α → Bool} {l : List α} {k : Nat} (h : noneTo p l k) (hk : k < l.length) (hp : p l[k] = true) : idxP p l = k := by
  have : l.findIdx p = k := (List.findIdx_eq hk).2 ⟨hp, fun j hj => h j (by omega) hj⟩
  unfold idxP; rw [this, if_pos hk]
theorem find_hit {p : α → Bool} {l : List α} {k : Nat} (h : noneTo p l k) (hk : k < l.length) (hp : p l[k] = true) : l.find? p = some l[k] := by
  rw [List.find?_eq_some_iff_getElem]
  exact ⟨hp, k, hk, rfl, fun j hj => by rw [h j (by omega) hj]; rfl⟩
theorem none_of_to {p : α → Bool} {l : List α} (h : noneTo p l l.length) : ∀ x ∈ l, p x = false := fun x hx => by
  obtain ⟨i, hi, rfl⟩ := List.getElem_of_mem hx
  exact h i hi hi
theorem idx_miss {p : α → Bool} {l : List α} (h : noneTo p l l.length) : idxP p l = -1 := by
  have : l.findIdx p = l.length := List.findIdx_eq_length_of_false (none_of_to h)
  unfold idxP; rw [this, if_neg (by omega)]
theorem idx_cases (p : α → Bool) (l : List α) : (∃ k, ∃ h : k < l.length, idxP p l = k ∧ p l[k] = true ∧ noneTo p l k) ∨ (idxP p l = -1 ∧ ∀ x ∈ l, p x = false) := by
  by_cases h : l.findIdx p < l.length
  · refine .inl ⟨l.findIdx p, h, by unfold idxP; rw [if_pos h], List.findIdx_getElem, fun i hi hlt => ?_⟩
    have := (List.findIdx_eq (i := l.findIdx p) (p := p) h).1 rfl
    exact this.2 i hlt
  · refine .inr ⟨by unfold idxP; rw [if_neg h], fun x hx => ?_⟩
    have := List.findIdx_eq_length.1 (Nat.le_antisymm (List.findIdx_le_length) (Nat.not_lt.1 h))
    exact this x hx
end

def appliesP (m : Nat × Nat) : Bool := !(m == (0, 0))
def sureP (m : Nat × Nat) : Bool := (m == (0, 0)) || (m == (4, 0)) || (m == (0, 4))
def stepP (k : Nat) (j m : Nat × Nat) : Nat × Nat :=
  match k with
  | 3 => bif j == (0, 0) then m else j
  | 4 => bif j == (0, 0) then m else bif m == (0, 0) then j else (2, 2)
  | _ => joinP j m
def firstP (l : List (Nat × Nat)) : Nat × Nat := (l.find? appliesP).getD (0, 0)
def onlyP (l : List (Nat × Nat)) : Nat × Nat := bif l.all sureP then l.foldl (stepP 4) (0, 0) else (2, 2)
def hasP (m : Nat × Nat) (l : List (Nat × Nat)) : Bool := l.any (m == ·)
def unlessP (l : List (Nat × Nat)) (m other : Nat × Nat) : Nat × Nat := bif hasP other l then other else m
def joinsP (l : List (Nat × Nat)) : Nat × Nat := l.foldl joinP (0, 0)
/-- What decisions make by an algorithm, when all are some. -/
def algP (k : Nat) (l : List (Nat × Nat)) : Nat × Nat :=
  match k with
  | 1 => overP (joinsP l)
  | 2 => swapP (overP (swapP (joinsP l)))
  | 3 => firstP l
  | 4 => onlyP l
  | 5 => unlessP l (0, 4) (4, 0)
  | _ => unlessP l (4, 0) (0, 4)
def QPs (l : List (Nat × Nat)) : Prop := ∀ m ∈ l, QP m
theorem QPs.at {l : List (Nat × Nat)} (h : QPs l) {i : Nat} (hi : i < l.length) : QP l[i] := h _ (List.getElem_mem hi)
theorem foldl_q {f : Nat × Nat → Nat × Nat → Nat × Nat} (hf : ∀ a b, QP a → QP b → QP (f a b)) : ∀ (l : List (Nat × Nat)) (a : Nat × Nat), QP a → QPs l → QP (l.foldl f a)
  | [], _, ha, _ => ha
  | m :: l, a, ha, h => foldl_q hf l _ (hf _ _ ha (h _ (List.mem_cons_self ..))) fun x hx => h x (List.mem_cons_of_mem _ hx)
theorem QP.zero : QP (0, 0) := ⟨by decide, by decide⟩
theorem QP.half : QP (2, 2) := ⟨by decide, by decide⟩
theorem stepP_q (k : Nat) {j m : Nat × Nat} (hj : QP j) (hm : QP m) : QP (stepP k j m) := by
  unfold stepP
  split
  · cases (j == (0, 0)) <;> assumption
  · cases (j == (0, 0))
    · cases (m == (0, 0))
      · exact QP.half
      · exact hj
    · exact hm
  · exact hj.join hm
theorem joinsP_q {l : List (Nat × Nat)} (h : QPs l) : QP (joinsP l) := foldl_q (fun _ _ => QP.join) l _ QP.zero h
theorem firstP_q {l : List (Nat × Nat)} (h : QPs l) : QP (firstP l) := by
  unfold firstP
  cases hf : l.find? appliesP with
  | none => exact QP.zero
  | some x => exact h x (List.mem_of_find?_eq_some hf)
theorem onlyP_q {l : List (Nat × Nat)} (h : QPs l) : QP (onlyP l) := by
  unfold onlyP
  cases l.all sureP
  · exact QP.half
  · exact foldl_q (fun _ _ => stepP_q 4) l _ QP.zero h
theorem unlessP_q {l : List (Nat × Nat)} {m o : Nat × Nat} (hm : QP m) (ho : QP o) : QP (unlessP l m o) := by
  unfold unlessP; cases hasP o l <;> assumption
theorem algP_q {k : Nat} {l : List (Nat × Nat)} (h : QPs l) : QP (algP k l) := by
  unfold algP
  split
  · exact overP_q _
  · exact (overP_q _).swap
  · exact firstP_q h
  · exact onlyP_q h
  · exact unlessP_q ⟨by decide, by decide⟩ ⟨by decide, by decide⟩
  · exact unlessP_q ⟨by decide, by decide⟩ ⟨by decide, by decide⟩
theorem take_fold {β : Type} (f : β → Nat × Nat → β) (a : β) (l : List (Nat × Nat)) (k : Nat) (hk : k < l.length) : (l.take (k + 1)).foldl f a = f ((l.take k).foldl f a) l[k] := by
  rw [List.take_succ_eq_append_getElem hk, List.foldl_append]; rfl

theorem applies_any (m : Nat × Nat) (hm : QP m) (w : World) : Calls Try.prog 47 #[.complex .f64 (qb m.1) (qb m.2)] w fun e w' => e = .returned (.bool (appliesP m)) ∧ w = w' :=
  applies_core _ _ (m == (0, 0)) w (mark_eq m.1 m.2 0 0 hm (by decide) (by decide))
theorem sure_any (m : Nat × Nat) (hm : QP m) (w : World) : Calls Try.prog 48 #[.complex .f64 (qb m.1) (qb m.2)] w fun e w' => e = .returned (.bool (sureP m)) ∧ w = w' :=
  sure_core _ _ _ _ _ w (mark_eq m.1 m.2 0 0 hm (by decide) (by decide)) (mark_eq m.1 m.2 4 0 hm (by decide) (by decide)) (mark_eq m.1 m.2 0 4 hm (by decide) (by decide))
theorem step_any (k : Nat) (h1 : 1 ≤ k) (h6 : k ≤ 6) (j m : Nat × Nat) (hj : QP j) (hm : QP m) (w : World) :
    Calls Try.prog 33 #[.int .i64 k, .complex .f64 (qb j.1) (qb j.2), .complex .f64 (qb m.1) (qb m.2)] w fun e w' => e = .returned (.complex .f64 (qb (stepP k j m).1) (qb (stepP k j m).2)) ∧ w = w' := by
  obtain rfl | rfl | rfl | rfl | rfl | rfl : k = 1 ∨ k = 2 ∨ k = 3 ∨ k = 4 ∨ k = 5 ∨ k = 6 := by omega
  · exact step_join 1 (by omega) _ _ _ _ _ _ w (join_any j m hj hm)
  · exact step_join 2 (by omega) _ _ _ _ _ _ w (join_any j m hj hm)
  · have h := step_first _ _ (qb m.1) (qb m.2) _ w (mark_eq j.1 j.2 0 0 hj (by decide) (by decide))
    refine h.mono fun e w' hh => ⟨hh.1.trans ?_, hh.2⟩
    unfold stepP
    show Ending.returned (bif (j == (0, 0)) then _ else _) = _
    cases (j == (0, 0)) <;> rfl
  · have h := step_only _ _ (qb m.1) (qb m.2) _ _ w (mark_eq j.1 j.2 0 0 hj (by decide) (by decide)) (mark_eq m.1 m.2 0 0 hm (by decide) (by decide))
    refine h.mono fun e w' hh => ⟨hh.1.trans ?_, hh.2⟩
    unfold stepP
    show Ending.returned (bif (j == (0, 0)) then _ else bif (m == (0, 0)) then _ else _) = _
    cases (j == (0, 0)) <;> cases (m == (0, 0)) <;> rfl
  · exact step_join 5 (by omega) _ _ _ _ _ _ w (join_any j m hj hm)
  · exact step_join 6 (by omega) _ _ _ _ _ _ w (join_any j m hj hm)
end Go.Proofs.Ytlkikaeboeaadaa
