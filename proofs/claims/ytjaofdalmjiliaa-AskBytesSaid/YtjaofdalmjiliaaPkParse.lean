/-
  PLAIN: A NUMBER OUT OF BYTES. No program.
-/
import Derived.Test.YtjaofdalmjiliaaPkP
namespace Go.Proofs.Ytjaofdalmjiliaa
set_option linter.unusedVariables false

/-- A piece that may not stand at its place. -/
def badC (i c : Nat) : Prop := (i = 9 ∧ 1 < c) ∨ (0 < i ∧ c = 0)
instance (i c : Nat) : Decidable (badC i c) := by unfold badC; exact inferInstance
/-- Pieces from the i-th on, u from those ahead: the whole, and how many pieces. -/
def parse : List UInt8 → Nat → Nat → Option (Nat × Nat)
  | [], _, _ => none
  | c :: r, i, u => if 10 ≤ i then none else if badC i c.toNat then none else if c.toNat < 128 then some (u + c.toNat * 2 ^ (7 * i), i + 1) else parse r (i + 1) (u + (c.toNat % 128) * 2 ^ (7 * i))
/-- The sign back. -/
def unzz (u : Nat) : Int := if u % 2 = 1 then -((u / 2 : Nat) : Int) - 1 else ((u / 2 : Nat) : Int)
theorem unzz_zz (n : Int) : unzz (zz n) = n := by
  unfold unzz zz
  by_cases h : 0 ≤ n
  · rw [if_pos h, if_neg (by omega)]; omega
  · rw [if_neg h, if_pos (by omega)]; omega
theorem parse_end {r : List UInt8} {i u : Nat} (h : 10 ≤ i ∨ r = []) : parse r i u = none := by
  cases r with
  | nil => rfl
  | cons c r =>
    rcases h with h | h
    · unfold parse; rw [if_pos h]
    · cases h
theorem parse_bad {c : UInt8} {r : List UInt8} {i u : Nat} (h : badC i c.toNat) : parse (c :: r) i u = none := by
  unfold parse
  by_cases hi : 10 ≤ i
  · rw [if_pos hi]
  · rw [if_neg hi, if_pos h]
theorem parse_last {c : UInt8} {r : List UInt8} {i u : Nat} (hi : i < 10) (h : ¬ badC i c.toNat) (hc : c.toNat < 128) : parse (c :: r) i u = some (u + c.toNat * 2 ^ (7 * i), i + 1) := by
  conv => lhs; unfold parse
  rw [if_neg (by omega), if_neg h, if_pos hc]
theorem parse_more {c : UInt8} {r : List UInt8} {i u : Nat} (hi : i < 10) (h : ¬ badC i c.toNat) (hc : ¬ c.toNat < 128) : parse (c :: r) i u = parse r (i + 1) (u + (c.toNat % 128) * 2 ^ (7 * i)) := by
  conv => lhs; unfold parse
  rw [if_neg (by omega), if_neg h, if_neg hc]
/-- What a number at a place is: itself and how many bytes it has. -/
def numAt (l : List UInt8) (at_ : Nat) : Option (Int × Nat) := (parse (l.drop at_) 0 0).map fun r => (unzz r.1, r.2)
theorem parse_step (l : List UInt8) (k : Nat) (hk : k < l.length) : l.drop k = l[k] :: l.drop (k + 1) := List.drop_eq_getElem_cons hk
end Go.Proofs.Ytjaofdalmjiliaa
