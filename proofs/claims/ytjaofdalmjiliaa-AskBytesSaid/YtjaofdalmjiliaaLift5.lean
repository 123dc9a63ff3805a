/-
  WHAT EVERY LAW'S LAST STEP WITH A SLICE OF NUMBERS NEEDS ONCE.
-/
import Derived.Test.YtjaofdalmjiliaaLift
namespace Go.Proofs.Ytjaofdalmjiliaa
open Go.ChangeShapes Go.WideShapes Go.ChangeAt Go.RowKit Go.Deep
theorem open_intl {H : Type} {enc : TypeId × Value → H} {P : Program} {W : World} {sp : Nat → Bool} {held : Bool} {r : Reach} {b0 : Nat} {t e : TypeId} {v : Value} {d : DataW H} {p : List MemPlace} (ht : P.underlying t = some (.slice e)) (he : P.underlying e = some (.int .i64)) (hC : P.cellsOf e = 1)
    (hv : Value.okWide P W r b0 t v) (h : DataW.Trod enc P W 0 sp held t v d p) :
    ∃ (a : Option Addr) (cap : Nat) (l : List Int), v = .slice a l.length cap ∧ l.length ≤ cap ∧ cap ≤ maxLen ∧ Sl W W.heap.size a (vints .i64 l) := by
  obtain ⟨a, cap, l, rfl, h1, h2, _, h4⟩ := open_ints_list ht he hC hv h
  exact ⟨a, cap, l, rfl, h1, h2, h4⟩
end Go.Proofs.Ytjaofdalmjiliaa
