/-
  PLAIN PARTS of the walk of bailifflaw5.CombineOrder: owned rows in unlike blocks; a list without one place.
-/
import Derived.Test.YtlkikaeboeaadaaCombTurnsW
import Derived.Deep.RegionHeld3
import Derived.Deep.DeepCutAuto
import Derived.Deep.LoopGhost
namespace Go.Proofs.Ytlkikaeboeaadaa
open Go.RowKit
set_option linter.unusedVariables false

/-- An owned row stays where only what comes behind it is written. -/
theorem own_stay {w w' : World} {base : Nat} {e : TypeId} {size n : Nat} {v : Value} {xs : List Value} {B : Nat} (h : w.ownsRow base e size v n xs) (hb : Below B w w') (hB : w.heap.size ≤ B) : w'.ownsRow base e size v n xs := by
  refine ⟨h.1, ?_⟩
  rcases h.2 with h' | ⟨g, cap, cur, hv, hg, hh, r⟩
  · exact .inl h'
  · have hlt := (Array.getElem?_eq_some_iff.1 hh).1
    exact .inr ⟨g, cap, cur, hv, hg, (hb.block g (by omega)).trans hh, r⟩
theorem own_lt {w : World} {base : Nat} {e : TypeId} {size n : Nat} {v : Value} {xs : List Value} (h : w.ownsRow base e size v n xs) : ∀ k, v.ownBlock = some k → base ≤ k ∧ k < w.heap.size := fun k hk => h.lt k hk
/-- Out of a row that is not empty. -/
theorem own_some {w : World} {base : Nat} {e : TypeId} {size n : Nat} {v : Value} {xs : List Value} (h : w.ownsRow base e size v n xs) (hn : 0 < n) : ∃ g cap, v = .slice (some ⟨g, 0, none⟩) n cap ∧ n ≤ cap ∧ cap ≤ maxLen ∧ base ≤ g ∧ g < w.heap.size := by
  rcases h.2 with ⟨rfl, hx⟩ | ⟨g, cap, cur, rfl, hg0, hg, hnc, hcm, _⟩
  · have := h.1; subst hx
    exfalso
    have h2 := own_slice h
    obtain ⟨A, c, e1, h3, _⟩ := h2
    injection e1 with _ e2 _
    omega
  · exact ⟨g, cap, rfl, hnc, hcm, hg0, (Array.getElem?_eq_some_iff.1 hg).1⟩
theorem own_apart {w w' : World} {b b' : Nat} {e e' : TypeId} {s s' n m : Nat} {v u : Value} {xs ys : List Value} (h : w.ownsRow b e s v n xs) (h' : w'.ownsRow b' e' s' u m ys) (hB : w.heap.size ≤ b') : v.ownBlock = none ∨ v.ownBlock ≠ u.ownBlock := by
  cases hv : v.ownBlock with
  | none => exact .inl rfl
  | some k =>
    refine .inr fun e0 => ?_
    have h1 := (h.lt k hv).2
    have h2 := (h'.lt k e0.symm).1
    omega
def Apart (t v : Value) : Prop := t.ownBlock = none ∨ t.ownBlock ≠ v.ownBlock
theorem Apart.back {t : Value} {g : Nat} {n c : Nat} (h : Apart t (.slice (some ⟨g, 0, none⟩) n c)) : (Value.slice (some ⟨g, 0, none⟩) n c).ownBlock = none ∨ (Value.slice (some ⟨g, 0, none⟩) n c).ownBlock ≠ t.ownBlock := by
  rcases h with h | h
  · rw [h]; exact .inr (by simp [Value.ownBlock])
  · exact .inr (Ne.symm h)
theorem perm_at {α : Type} (T L l : List α) (k : Nat) (hk : k < L.length) (h : (T ++ L).Perm l) : ((T ++ [L[k]]) ++ (L.take k ++ L.drop (k + 1))).Perm l := by
  refine List.Perm.trans ?_ h
  rw [List.append_assoc]
  refine List.Perm.append_left T ?_
  have : L.Perm ([L[k]] ++ (L.take k ++ L.drop (k + 1))) := by
    conv => lhs; rw [← List.take_append_drop k L, List.drop_eq_getElem_cons hk]
    exact List.perm_middle
  exact this.symm
theorem perm_q {T l : List (Nat × Nat)} (h : T.Perm l) (hq : QPs l) : QPs T := fun m hm => hq m (h.mem_iff.1 hm)
theorem perm_6 {T l : List (Nat × Nat)} (h : T.Perm l) (hq : All6 l) : All6 T := fun m hm => hq m (h.mem_iff.1 hm)
theorem F_q {l : List (Nat × Nat)} (hq : QPs l) : QPs (F l) := fun m hm => hq m (F_mem hm).1
theorem F_6 {l : List (Nat × Nat)} (hq : All6 l) : All6 (F l) := fun m hm => hq m (F_mem hm).1
/-- Where the loop that turns stands: so much is turned, so much is left. -/
def OrderRel (l : List (Nat × Nat)) (w0 : World) (g : Nat) (t v i : Value) (wr : World) : Prop :=
  ∃ (T L : List (Nat × Nat)) (i0 : Nat), L.length = g ∧ i = .int .i64 i0 ∧ i0 + L.length = l.length ∧ wr.ownsRow w0.heap.size 23 1 t T.length (vm T) ∧ wr.ownsRow w0.heap.size 23 1 v L.length (vm L) ∧ Apart t v ∧ (T ++ L).Perm l ∧ Below w0.heap.size w0 wr
/-- A place was chosen; nothing turned. -/
def KMid (wr : World) (n : Nat) (v : Value) (wx : World) : Prop := ∃ K : Nat, K < n ∧ v = .int .i64 K ∧ wx = wr
end Go.Proofs.Ytlkikaeboeaadaa
