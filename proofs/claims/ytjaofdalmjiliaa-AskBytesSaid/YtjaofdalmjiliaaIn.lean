/-
  A DRAWN REGION WHOSE CALLS LAY MEMORY: its operations yield the same values in every world of a class, which every call keeps.
-/
import Derived.Test.YtjaofdalmjiliaaAskRunsW
import Derived.Deep.Quiet
import Derived.Deep.QuietTactic
import Derived.BigQuiet
namespace Go.Proofs.Ytjaofdalmjiliaa
open Go.RowKit
set_option linter.unusedVariables false

/-- A world of a class. -/
structure In (C : World → Prop) where
  w : World
  h : C w
theorem wp_region_in {P : Program} {C : World → Prop} {id : Nat} {Q : Exit → Act → World → Prop} {a : Act} {w : World} {l : List Oper} (hm : P.follows .mixedOrders = true) (hB : Region.lexB .any l.toArray = true) (hC : C w.drew)
    (h : wpQuiet P l.toArray (fun w' => ∃ p : In C, w' = p.w) (fun a' => ∀ w', C w' → Q .normal a' w') l a) : (Code.region id l.toArray true).wp P Q a w := by
  refine wp_region_quiet (C := fun w' => ∃ p : In C, w' = p.w) hm hB ⟨⟨w.drew, hC⟩, rfl⟩ ?_
  have e : (fun a' => ∀ w', (∃ p : In C, w' = p.w) → Q .normal a' w') = fun a' => ∀ w', C w' → Q .normal a' w' := by
    funext a'
    exact propext ⟨fun g w' hb => g w' ⟨⟨w', hb⟩, rfl⟩, fun g w' ⟨p, hp⟩ => hp ▸ g p.w p.h⟩
  rw [e]
  simpa using h
theorem in_call {P : Program} {C : World → Prop} {p : In C} {f : FuncId} {args : Array Value} {v : Value} (h : ∀ w', C w' → Calls P f args w' fun e w'' => e = .returned v ∧ C w'') :
    Calls P f args p.w fun e w'' => e = .returned v ∧ ∃ q : In C, w'' = q.w :=
  (h p.w p.h).mono fun _ w'' k => ⟨k.1, ⟨w'', k.2⟩, rfl⟩
/-- The worlds behind one. -/
def Aft (w : World) (w' : World) : Prop := Below w.heap.size w w'
theorem aft_drew (w : World) : Aft w w.drew := (Below.refl _ _).drew
instance (w : World) : Nonempty (In (Aft w)) := ⟨⟨w, Below.refl _ _⟩⟩
end Go.Proofs.Ytjaofdalmjiliaa
