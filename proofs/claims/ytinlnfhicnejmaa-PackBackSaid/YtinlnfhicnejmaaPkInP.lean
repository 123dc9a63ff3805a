/-
  PLAIN: what In, Num and Text of a reader answer. No program.
-/
import Derived.Test.YtinlnfhicnejmaaPkNumber
import Derived.Test.YtinlnfhicnejmaaPkLaws
namespace Go.Proofs.Ytinlnfhicnejmaa
set_option linter.unusedVariables false

theorem parse_facts : ∀ (r : List UInt8) (i u v s : Nat), parse r i u = some (v, s) → u < 2 ^ (7 * i) → i + 1 ≤ s ∧ s ≤ i + r.length ∧ s ≤ 10 ∧ v < 18446744073709551616
  | [], i, u, v, s, h, hu => by cases h
  | c :: r, i, u, v, s, h, hu => by
    by_cases hi : 10 ≤ i
    · rw [parse_end (.inl hi)] at h; cases h
    by_cases hb : badC i c.toNat
    · rw [parse_bad hb] at h; cases h
    have hp := piece i u c.toNat (by omega) c.toNat_lt hb hu
    by_cases hl : c.toNat < 128
    · rw [parse_last (by omega) hb hl] at h
      have hp2 := hp.2.1
      rw [Nat.mod_eq_of_lt hl] at hp2
      injection h with h
      injection h with e1 e2
      subst e1 e2
      exact ⟨Nat.le_refl _, by simp, by omega, hp2⟩
    · rw [parse_more (by omega) hb hl] at h
      have h8 : i ≤ 8 := by
        rcases Nat.lt_or_ge 8 i with h9 | h9
        · have h9' : i = 9 := by omega
          exact absurd (.inl ⟨h9', by omega⟩) hb
        · exact h9
      obtain ⟨f1, f2, f3, f4⟩ := parse_facts r (i + 1) _ v s h (hp.2.2 h8)
      exact ⟨by omega, by rw [List.length_cons]; omega, f3, f4⟩
theorem unzz_range (u : Nat) (h : u < 18446744073709551616) : -9223372036854775808 ≤ unzz u ∧ unzz u ≤ 9223372036854775807 := by
  unfold unzz; split <;> omega
theorem numAt_facts {l : List UInt8} {at_ : Nat} {n : Int} {s : Nat} (h : numAt l at_ = some (n, s)) (hat : at_ ≤ l.length) : 1 ≤ s ∧ at_ + s ≤ l.length ∧ s ≤ 10 ∧ -9223372036854775808 ≤ n ∧ n ≤ 9223372036854775807 := by
  unfold numAt at h
  rcases hp : parse (l.drop at_) 0 0 with _ | ⟨v, t⟩
  · rw [hp] at h; cases h
  · rw [hp] at h
    injection h with h
    injection h with e1 e2
    subst e1 e2
    obtain ⟨f1, f2, f3, f4⟩ := parse_facts _ 0 0 v t hp (by decide)
    rw [List.length_drop] at f2
    exact ⟨by omega, by omega, f3, unzz_range v f4⟩
/-- In's answer, the place behind it, and whether something is wrong. -/
def inAt (l : List UInt8) (at_ : Nat) (bad : Bool) (lo hi : Int) : Int × Nat × Bool :=
  bif bad then (0, at_, true) else match numAt l at_ with
  | some (n, sz) => if n < lo ∨ hi < n then (0, at_, true) else (n, at_ + sz, false)
  | none => (0, at_, true)
theorem inAt_bad (l : List UInt8) (at_ : Nat) (lo hi : Int) : inAt l at_ true lo hi = (0, at_, true) := rfl
theorem inAt_none {l : List UInt8} {at_ : Nat} (lo hi : Int) (h : numAt l at_ = none) : inAt l at_ false lo hi = (0, at_, true) := by unfold inAt; rw [h]; rfl
theorem inAt_out {l : List UInt8} {at_ : Nat} {lo hi n : Int} {sz : Nat} (h : numAt l at_ = some (n, sz)) (ho : n < lo ∨ hi < n) : inAt l at_ false lo hi = (0, at_, true) := by unfold inAt; rw [h]; show (if _ then _ else _) = _; rw [if_pos ho]
theorem inAt_in {l : List UInt8} {at_ : Nat} {lo hi n : Int} {sz : Nat} (h : numAt l at_ = some (n, sz)) (h1 : lo ≤ n) (h2 : n ≤ hi) : inAt l at_ false lo hi = (n, at_ + sz, false) := by unfold inAt; rw [h]; show (if _ then _ else _) = _; rw [if_neg (by omega)]
theorem inAt_cases (l : List UInt8) (at_ : Nat) (bad : Bool) (lo hi : Int) (hat : at_ ≤ l.length) : (inAt l at_ bad lo hi = (0, at_, true)) ∨ (∃ n sz, bad = false ∧ inAt l at_ bad lo hi = (n, at_ + sz, false) ∧ numAt l at_ = some (n, sz) ∧ lo ≤ n ∧ n ≤ hi ∧ 1 ≤ sz ∧ at_ + sz ≤ l.length) := by
  rcases bad with _ | _
  · rcases hn : numAt l at_ with _ | ⟨n, sz⟩
    · exact .inl (inAt_none _ _ hn)
    · by_cases ho : n < lo ∨ hi < n
      · exact .inl (inAt_out hn ho)
      · have hf := numAt_facts hn hat
        exact .inr ⟨n, sz, rfl, inAt_in hn (by omega) (by omega), rfl, by omega, by omega, hf.1, hf.2.1⟩
  · exact .inl rfl
/-- Text's answer, the place behind it, and whether something is wrong. -/
def textAt (l : List UInt8) (at_ : Nat) (bad : Bool) (most : Int) : List UInt8 × Nat × Bool :=
  bif (inAt l at_ bad 0 most).2.2 then ([], at_, true) else
    if (inAt l at_ bad 0 most).1 ≤ (l.length - (inAt l at_ bad 0 most).2.1 : Nat) then ((l.drop (inAt l at_ bad 0 most).2.1).take (inAt l at_ bad 0 most).1.toNat, (inAt l at_ bad 0 most).2.1 + (inAt l at_ bad 0 most).1.toNat, false) else ([], at_, true)
theorem textAt_bad {l : List UInt8} {at_ : Nat} {bad : Bool} {most n : Int} {k : Nat} (h : inAt l at_ bad 0 most = (n, k, true)) : textAt l at_ bad most = ([], at_, true) := by unfold textAt; rw [h]; rfl
theorem textAt_short {l : List UInt8} {at_ : Nat} {bad : Bool} {most n : Int} {k : Nat} (h : inAt l at_ bad 0 most = (n, k, false)) (hs : ((l.length - k : Nat) : Int) < n) : textAt l at_ bad most = ([], at_, true) := by
  unfold textAt; rw [h]; show (if n ≤ ((l.length - k : Nat) : Int) then _ else _) = _; rw [if_neg (by omega)]
theorem textAt_in {l : List UInt8} {at_ : Nat} {bad : Bool} {most n : Int} {k : Nat} (h : inAt l at_ bad 0 most = (n, k, false)) (hs : n ≤ ((l.length - k : Nat) : Int)) : textAt l at_ bad most = ((l.drop k).take n.toNat, k + n.toNat, false) := by
  unfold textAt; rw [h]; show (if n ≤ ((l.length - k : Nat) : Int) then _ else _) = _; rw [if_pos hs]
end Go.Proofs.Ytinlnfhicnejmaa
