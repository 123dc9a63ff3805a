/-
  PLAIN WORDS of package pack: numbers as bytes, seven bits at a time. No program.
-/
import Derived.Test.YtjaofdalmjiliaaBase
namespace Go.Proofs.Ytjaofdalmjiliaa
set_option linter.unusedVariables false

/-- A number without its sign. -/
def zz (n : Int) : Nat := if 0 ≤ n then (2 * n).toNat else (-2 * n - 1).toNat
theorem zz_lt (n : Int) (h1 : -9223372036854775808 ≤ n) (h2 : n ≤ 9223372036854775807) : zz n < 18446744073709551616 := by
  unfold zz; split <;> omega
theorem zz_inj {m n : Int} (h : zz m = zz n) : m = n := by
  unfold zz at h; split at h <;> split at h <;> omega
/-- A number's pieces of seven bits. -/
def vint (u : Nat) : List UInt8 := if u < 128 then [UInt8.ofNat u] else UInt8.ofNat (u % 128 + 128) :: vint (u / 128)
termination_by u
decreasing_by omega
theorem vint_small {u : Nat} (h : u < 128) : vint u = [UInt8.ofNat u] := by rw [vint, if_pos h]
theorem vint_big {u : Nat} (h : ¬ u < 128) : vint u = UInt8.ofNat (u % 128 + 128) :: vint (u / 128) := by rw [vint, if_neg h]
def numP (n : Int) : List UInt8 := vint (zz n)
def textP (s : List UInt8) : List UInt8 := numP s.length ++ s
theorem vint_len : ∀ (k : Nat) (u : Nat), u < 128 ^ (k + 1) → (vint u).length ≤ k + 1
  | 0, u, h => by rw [vint_small (by simpa using h)]; simp
  | k + 1, u, h => by
    by_cases hu : u < 128
    · rw [vint_small hu]; simp
    · rw [vint_big hu, List.length_cons]
      have := vint_len k (u / 128) (by rw [Nat.pow_succ] at h; omega)
      omega
theorem vint_10 (u : Nat) (h : u < 18446744073709551616) : (vint u).length ≤ 10 := vint_len 9 u (by omega)
theorem vint_pos (u : Nat) : 1 ≤ (vint u).length := by
  by_cases hu : u < 128
  · rw [vint_small hu]; simp
  · rw [vint_big hu]; simp
theorem numP_10 (n : Int) (h1 : -9223372036854775808 ≤ n) (h2 : n ≤ 9223372036854775807) : (numP n).length ≤ 10 := vint_10 _ (zz_lt n h1 h2)
theorem ofNat_toNat (u : Nat) (h : u < 256) : ((UInt8.ofNat u).toNat : Int) = (u : Int) := by rw [UInt8.toNat_ofNat']; omega
end Go.Proofs.Ytjaofdalmjiliaa
