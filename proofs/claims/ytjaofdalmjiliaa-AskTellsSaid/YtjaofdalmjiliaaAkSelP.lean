/-
  SELECTION, PLAIN: the least of what is left is taken, again and again. No condition.
-/
import Derived.Test.YtjaofdalmjiliaaAkPutP
namespace Go.Proofs.Ytjaofdalmjiliaa
open Go.RowKit
set_option linter.unusedVariables false

/-- The attribute at a place. -/
def atG (l : List Gm) (i : Nat) : Gm := (l[i]?).getD ⟨0, ByteArray.empty, none, 0, []⟩
theorem atG_eq {l : List Gm} {i : Nat} (h : i < l.length) : atG l i = l[i] := by unfold atG; rw [List.getElem?_eq_getElem h]; rfl
theorem map_atG (l : List Gm) : (List.range l.length).map (atG l) = l := by
  apply List.ext_getElem
  · simp
  · intro i h1 h2
    rw [List.getElem_map, List.getElem_range, atG_eq h2]
/-- What is taken, what is left. -/
structure Sel (l : List Gm) (idx R : List Nat) : Prop where
  perm : (idx ++ R).Perm (List.range l.length)
  up : Up (idx.map (atG l))
  low : ∀ i ∈ idx, ∀ j ∈ R, Le (atG l i) (atG l j)
theorem Sel.start (l : List Gm) : Sel l [] (List.range l.length) := ⟨List.Perm.refl _, List.Pairwise.nil, fun i h => absurd h (by simp)⟩
theorem Sel.nodup {l : List Gm} {idx R : List Nat} (h : Sel l idx R) : R.Nodup := by
  have h1 : (idx ++ R).Nodup := h.perm.nodup_iff.2 List.nodup_range
  exact (List.nodup_append.1 h1).2.1
theorem Sel.mem {l : List Gm} {idx R : List Nat} (h : Sel l idx R) {j : Nat} (hj : j ∈ R) : j < l.length :=
  List.mem_range.1 (h.perm.mem_iff.1 (List.mem_append_right _ hj))
theorem Sel.len {l : List Gm} {idx R : List Nat} (h : Sel l idx R) : idx.length + R.length = l.length := by
  have := h.perm.length_eq
  rw [List.length_append, List.length_range] at this
  exact this
theorem Sel.take {l : List Gm} {idx R : List Nat} (h : Sel l idx R) {k : Nat} (hk : k ∈ R) (hm : ∀ j ∈ R, Le (atG l k) (atG l j)) : Sel l (idx ++ [k]) (R.erase k) := by
  refine ⟨?_, ?_, ?_⟩
  · have h1 : R.Perm (k :: R.erase k) := List.perm_cons_erase hk
    have h2 : ((idx ++ [k]) ++ R.erase k).Perm (idx ++ R) := by
      rw [List.append_assoc]
      exact h1.symm.append_left idx
    exact h2.trans h.perm
  · rw [List.map_append]
    refine Up.append h.up (List.pairwise_singleton _ _) ?_
    intro x hx y hy
    obtain ⟨i, hi, rfl⟩ := List.mem_map.1 hx
    simp only [List.map_cons, List.map_nil, List.mem_singleton] at hy
    subst hy
    exact h.low i hi k hk
  · intro i hi j hj
    have hjR : j ∈ R := List.mem_of_mem_erase hj
    rcases List.mem_append.1 hi with hi | hi
    · exact h.low i hi j hjR
    · rw [List.mem_singleton] at hi
      subst hi
      exact hm j hjR
theorem Sel.done {l : List Gm} {idx R : List Nat} (h : Sel l idx R) (hn : idx.length = l.length) : Up (idx.map (atG l)) ∧ (idx.map (atG l)).Perm l := by
  have hR : R = [] := List.eq_nil_of_length_eq_zero (by have := h.len; omega)
  subst hR
  refine ⟨h.up, ?_⟩
  have h1 := h.perm
  rw [List.append_nil] at h1
  have h2 := h1.map (atG l)
  rwa [map_atG] at h2
/-- The best of those ahead of m that are left; below 0: none. -/
def Best (l : List Gm) (R : List Nat) (m : Nat) (k : Int) : Prop :=
  (k = -1 ∧ ∀ j ∈ R, m ≤ j) ∨ ∃ q : Nat, k = (q : Int) ∧ q ∈ R ∧ q < m ∧ ∀ j ∈ R, j < m → Le (atG l q) (atG l j)
theorem Best.start (l : List Gm) (R : List Nat) : Best l R 0 (-1) := .inl ⟨rfl, fun _ _ => Nat.zero_le _⟩
theorem Best.skip {l : List Gm} {R : List Nat} {m : Nat} {k : Int} (h : Best l R m k) (hm : m ∉ R) : Best l R (m + 1) k := by
  rcases h with ⟨rfl, h⟩ | ⟨q, rfl, h1, h2, h3⟩
  · exact .inl ⟨rfl, fun j hj => by have := h j hj; have : j ≠ m := fun e => hm (e ▸ hj); omega⟩
  · exact .inr ⟨q, rfl, h1, by omega, fun j hj hlt => h3 j hj (by have : j ≠ m := fun e => hm (e ▸ hj); omega)⟩
theorem Best.first {l : List Gm} {R : List Nat} {m : Nat} (h : ∀ j ∈ R, m ≤ j) (hm : m ∈ R) : Best l R (m + 1) (m : Int) :=
  .inr ⟨m, rfl, hm, by omega, fun j hj hlt => by
    have h1 : m ≤ j := h j hj
    have : j = m := by omega
    rw [this]; exact Le.refl _⟩
theorem Best.less {l : List Gm} {R : List Nat} {m q : Nat} (h3 : ∀ j ∈ R, j < m → Le (atG l q) (atG l j)) (hm : m ∈ R) (hlt : Lt (atG l m) (atG l q)) : Best l R (m + 1) (m : Int) :=
  .inr ⟨m, rfl, hm, by omega, fun j hj hj2 => by
    by_cases e : j = m
    · rw [e]; exact Le.refl _
    · exact hlt.le.trans (h3 j hj (by omega))⟩
theorem Best.stay {l : List Gm} {R : List Nat} {m q : Nat} (h1 : q ∈ R) (h2 : q < m) (h3 : ∀ j ∈ R, j < m → Le (atG l q) (atG l j)) (hn : ¬ Lt (atG l m) (atG l q)) : Best l R (m + 1) (q : Int) :=
  .inr ⟨q, rfl, h1, by omega, fun j hj hj2 => by
    by_cases e : j = m
    · rw [e]; exact hn
    · exact h3 j hj (by omega)⟩
theorem Best.last {l : List Gm} {R : List Nat} {k : Int} (h : Best l R l.length k) (hR : ∀ j ∈ R, j < l.length) (hn : 0 < R.length) : ∃ q : Nat, k = (q : Int) ∧ q ∈ R ∧ ∀ j ∈ R, Le (atG l q) (atG l j) := by
  rcases h with ⟨_, h⟩ | ⟨q, e, h1, _, h3⟩
  · exfalso
    have h1 : R[0] ∈ R := List.getElem_mem hn
    have := h _ h1
    have := hR _ h1
    omega
  · exact ⟨q, e, h1, fun j hj => h3 j hj (hR j hj)⟩
/-- Which are done. -/
def flags (R : List Nat) (n : Nat) : List Value := (List.range n).map (fun j => .bool (decide (j ∉ R)))
theorem flags_at (R : List Nat) {n j : Nat} (h : j < n) : (flags R n)[j]? = some (.bool (decide (j ∉ R))) := by
  unfold flags
  rw [List.getElem?_map, List.getElem?_range h]
  rfl
theorem flags_len (R : List Nat) (n : Nat) : (flags R n).length = n := by unfold flags; simp
theorem flags_start (n : Nat) : List.replicate n (Value.bool false) = flags (List.range n) n := by
  apply List.ext_getElem?
  intro j
  by_cases h : j < n
  · rw [flags_at _ h, List.getElem?_replicate, if_pos h, decide_eq_false (by rw [List.mem_range]; omega)]
  · rw [List.getElem?_eq_none (by simp; omega), List.getElem?_eq_none (by rw [flags_len]; omega)]
theorem flags_set {R : List Nat} (hR : R.Nodup) {n k : Nat} (hk : k < n) : (flags R n).set k (.bool true) = flags (R.erase k) n := by
  apply List.ext_getElem?
  intro j
  rw [List.getElem?_set]
  by_cases h : j < n
  · by_cases e : k = j
    · subst e
      rw [if_pos rfl, if_pos (by rw [flags_len]; exact h), flags_at _ h, decide_eq_true (show ¬ k ∈ R.erase k from fun h2 => (hR.mem_erase_iff.1 h2).1 rfl)]
    · rw [if_neg e, flags_at _ h, flags_at _ h]
      congr 2
      rw [decide_eq_decide, hR.mem_erase_iff]
      constructor
      · exact fun h1 h2 => h1 h2.2
      · exact fun h1 h2 => h1 ⟨fun e2 => e e2.symm, h2⟩
  · have h1 : ¬ (k = j ∧ True) := by omega
    rw [if_neg (by omega), List.getElem?_eq_none (by rw [flags_len]; omega), List.getElem?_eq_none (by rw [flags_len]; omega)]
theorem sel_bytes {l : List Gm} (idx : List Nat) (k : Nat) : ((idx ++ [k]).map (fun i => gvP (atG l i).gv)).flatten = (idx.map (fun i => gvP (atG l i).gv)).flatten ++ gvP (atG l k).gv := by
  rw [List.map_append, List.flatten_append]
  simp
theorem sel_askP (l : List Gm) (idx : List Nat) : askP (gvs (idx.map (atG l))) = numP (idx.length : Int) ++ (idx.map (fun i => gvP (atG l i).gv)).flatten := by
  unfold askP
  rw [gvs_len, List.length_map]
  congr 1
  unfold gvs
  rw [List.map_map, List.flatMap_def, List.map_map]
  rfl
end Go.Proofs.Ytjaofdalmjiliaa
