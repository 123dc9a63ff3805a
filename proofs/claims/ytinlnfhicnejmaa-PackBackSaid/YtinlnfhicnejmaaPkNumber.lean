/-
  CONTRACT OF Reader.number: a number out of a reader's bytes; nothing turns but the draws.
-/
import Derived.Test.YtinlnfhicnejmaaPkFail
import Derived.Test.YtinlnfhicnejmaaPkParse
import Derived.Deep.QuietTactic
import Derived.BigQuiet
namespace Go.Proofs.Ytinlnfhicnejmaa
open Go.RowKit
set_option linter.unusedVariables false

theorem pow_le (i : Nat) (hi : i ≤ 8) : 2 ^ (7 * i) * 128 ≤ 9223372036854775808 := by
  have h : 2 ^ (7 * i) ≤ 2 ^ 56 := Nat.pow_le_pow_right (by decide) (by omega)
  have e : (2 : Nat) ^ 56 = 72057594037927936 := by decide
  omega
/-- What a piece makes of the number so far. -/
theorem piece (i u C : Nat) (hi : i < 10) (hC : C < 256) (hg : ¬ badC i C) (hu : u < 2 ^ (7 * i)) :
    bits .or .u64 (u : Int) (IntKind.u64.wrap (IntKind.u64.wrap (bits .and .u8 (C : Int) 127) * 2 ^ (7 * i))) = ((u + (C % 128) * 2 ^ (7 * i) : Nat) : Int) ∧ u + (C % 128) * 2 ^ (7 * i) < 18446744073709551616 ∧ (i ≤ 8 → u + (C % 128) * 2 ^ (7 * i) < 2 ^ (7 * (i + 1))) := by
  have e1 : bits .and .u8 (C : Int) 127 = ((C % 128 : Nat) : Int) := by
    rw [show (127 : Int) = ((127 : Nat) : Int) from rfl, u8_and_nat _ _ (by omega) (by decide), show (127 : Nat) = 2 ^ 7 - 1 from rfl, Nat.and_two_pow_sub_one_eq_mod]
  have hlt : (C % 128) * 2 ^ (7 * i) < 18446744073709551616 ∧ u + (C % 128) * 2 ^ (7 * i) < 18446744073709551616 := by
    by_cases h9 : i = 9
    · subst h9
      have hc1 : C ≤ 1 := by
        rcases Nat.lt_or_ge 1 C with h | h
        · exact absurd (.inl ⟨rfl, h⟩) hg
        · exact h
      have e : (2 : Nat) ^ (7 * 9) = 9223372036854775808 := by decide
      rw [e] at hu ⊢
      have : C % 128 ≤ 1 := by omega
      have := Nat.mul_le_mul_right 9223372036854775808 this
      omega
    · have hp := pow_le i (by omega)
      have : C % 128 ≤ 127 := by omega
      have := Nat.mul_le_mul_right (2 ^ (7 * i)) this
      omega
  refine ⟨?_, hlt.2, fun h8 => ?_⟩
  · rw [e1]
    have e2 : IntKind.u64.wrap ((C % 128 : Nat) : Int) = ((C % 128 : Nat) : Int) := by rw [IntKind.wrap_u64]; omega
    have e3 : (((C % 128 : Nat) : Int) * 2 ^ (7 * i)) = (((C % 128) * 2 ^ (7 * i) : Nat) : Int) := by rw [Int.natCast_mul, Int.natCast_pow]; rfl
    have e4 : IntKind.u64.wrap (((C % 128) * 2 ^ (7 * i) : Nat) : Int) = (((C % 128) * 2 ^ (7 * i) : Nat) : Int) := by rw [IntKind.wrap_u64]; omega
    rw [e2, e3, e4, u64_or_nat _ _ (by omega) hlt.1]
    have := Nat.two_pow_add_eq_or_of_lt hu (C % 128)
    rw [Nat.or_comm, Nat.mul_comm (C % 128), ← this, Nat.add_comm]
  · have : C % 128 ≤ 127 := by omega
    have := Nat.mul_le_mul_right (2 ^ (7 * i)) this
    rw [show 7 * (i + 1) = 7 * i + 7 by omega, Nat.pow_add]
    have e : (2 : Nat) ^ 7 = 128 := by decide
    omega
theorem odd_one (u : Nat) (hu : u < 18446744073709551616) : (bits .and .u64 (u : Int) 1 == 1) = decide (u % 2 = 1) := by
  rw [show (1 : Int) = ((1 : Nat) : Int) from rfl, u64_and_nat _ _ hu (by decide), Nat.and_one_is_mod, Bool.eq_iff_iff, beq_iff_eq, decide_eq_true_eq]
  omega
theorem half_even (u : Nat) (hu : u < 18446744073709551616) (h : ¬ u % 2 = 1) : wrap64 ((u : Int) / 2) = unzz u := by
  unfold unzz
  rw [if_neg h]
  have : wrap64 ((u : Int) / 2) = (u : Int) / 2 := IntWalk.wrap64_in _ ⟨by omega, by omega⟩
  rw [this]; omega
theorem not_i64 (x : Nat) (hx : x < 9223372036854775808) : bits .xor .i64 (-1) (x : Int) = -(x : Int) - 1 := by
  show IntKind.i64.wrap ((BitVec.ofInt 64 (-1) ^^^ BitVec.ofInt 64 (x : Int)).toNat : Int) = _
  rw [show BitVec.ofInt 64 (-1) = BitVec.allOnes 64 by decide, BitVec.xor_comm, BitVec.xor_allOnes, BitVec.toNat_not, BitVec.ofInt_natCast, BitVec.toNat_ofNat, Nat.mod_eq_of_lt (by omega), IntKind.wrap_i64]
  omega
theorem half_odd (u : Nat) (hu : u < 18446744073709551616) (h : u % 2 = 1) : bits .xor .i64 (-1) (wrap64 ((u : Int) / 2)) = unzz u := by
  have : wrap64 ((u : Int) / 2) = ((u / 2 : Nat) : Int) := by
    have : wrap64 ((u : Int) / 2) = (u : Int) / 2 := IntWalk.wrap64_in _ ⟨by omega, by omega⟩
    rw [this]; omega
  rw [this, not_i64 _ (by omega)]
  unfold unzz
  rw [if_pos h]
/-- A number and its bytes, as two results. -/
def numV : Option (Int × Nat) → Value
  | some r => .tuple #[.int .i64 r.1, .int .i64 (r.2 : Nat)]
  | none => .tuple #[.int .i64 0, .int .i64 0]
/-- So far. -/
def SoFar (l : List UInt8) (at_ i u : Nat) (R : Option (Nat × Nat)) : Prop := u < 2 ^ (7 * i) ∧ parse (l.drop (at_ + i)) i u = R
end Go.Proofs.Ytinlnfhicnejmaa
