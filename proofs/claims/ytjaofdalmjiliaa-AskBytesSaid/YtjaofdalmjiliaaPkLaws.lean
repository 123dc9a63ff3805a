/-
  PLAIN LAWS OF NUMBERS AND TEXTS AS BYTES. No program.
-/
import Derived.Test.YtjaofdalmjiliaaPkParse
namespace Go.Proofs.Ytjaofdalmjiliaa
set_option linter.unusedVariables false

theorem toNat_small (u : Nat) (h : u < 256) : (UInt8.ofNat u).toNat = u := by rw [UInt8.toNat_ofNat']; omega
theorem parse_vint (r : List UInt8) : ∀ (u i v : Nat), i ≤ 9 → u < 2 ^ (64 - 7 * i) → (i = 0 ∨ 0 < u) → parse (vint u ++ r) i v = some (v + u * 2 ^ (7 * i), i + (vint u).length) := by
  intro u
  induction u using Nat.strongRecOn with
  | _ u ih =>
    intro i v hi hu h0
    by_cases hs : u < 128
    · rw [vint_small hs, List.singleton_append]
      have e : (UInt8.ofNat u).toNat = u := toNat_small u (by omega)
      have hb : ¬ badC i (UInt8.ofNat u).toNat := by
        rw [e]
        rintro (⟨h9, h1⟩ | ⟨h1, h2⟩)
        · subst h9
          have : (2 : Nat) ^ (64 - 7 * 9) = 2 := by decide
          omega
        · omega
      rw [parse_last (by omega) hb (by rw [e]; exact hs), e]
      rfl
    · have hi9 : i ≠ 9 := by
        rintro rfl
        have : (2 : Nat) ^ (64 - 7 * 9) = 2 := by decide
        omega
      rw [vint_big hs, List.cons_append]
      have e : (UInt8.ofNat (u % 128 + 128)).toNat = u % 128 + 128 := toNat_small _ (by omega)
      have hb : ¬ badC i (UInt8.ofNat (u % 128 + 128)).toNat := by
        rw [e]
        rintro (⟨h9, h1⟩ | ⟨h1, h2⟩) <;> omega
      rw [parse_more (by omega) hb (by rw [e]; omega), e]
      rw [ih (u / 128) (by omega) (i + 1) _ (by omega) (by
        have h7 : 64 - 7 * i = 7 + (64 - 7 * (i + 1)) := by omega
        rw [h7, Nat.pow_add] at hu
        exact Nat.div_lt_of_lt_mul hu) (.inr (by omega))]
      rw [List.length_cons, show (u % 128 + 128) % 128 = u % 128 by omega, show 7 * (i + 1) = 7 * i + 7 by omega, Nat.pow_add, show (2 : Nat) ^ 7 = 128 by decide, Nat.mul_comm (2 ^ (7 * i)) 128, ← Nat.mul_assoc, Nat.mul_comm (u / 128) 128, Nat.add_assoc, ← Nat.add_mul, Nat.mod_add_div]
      congr 2
      omega
theorem parse_cut : ∀ (u j i v : Nat), j < (vint u).length → parse ((vint u).take j) i v = none := by
  intro u
  induction u using Nat.strongRecOn with
  | _ u ih =>
    intro j i v hj
    cases j with
    | zero => exact parse_end (.inr (by simp))
    | succ j =>
      by_cases hs : u < 128
      · rw [vint_small hs] at hj; simp at hj
      · rw [vint_big hs] at hj ⊢
        rw [List.take_succ_cons]
        by_cases h10 : 10 ≤ i
        · exact parse_end (.inl h10)
        · have e : (UInt8.ofNat (u % 128 + 128)).toNat = u % 128 + 128 := toNat_small _ (by omega)
          by_cases hb : badC i (UInt8.ofNat (u % 128 + 128)).toNat
          · exact parse_bad hb
          · rw [parse_more (by omega) hb (by rw [e]; omega)]
            exact ih (u / 128) (by omega) j _ _ (by simpa using hj)
/-- A number is read back where it stands. -/
theorem numAt_at (pre r : List UInt8) (n : Int) (h1 : -9223372036854775808 ≤ n) (h2 : n ≤ 9223372036854775807) : numAt (pre ++ (numP n ++ r)) pre.length = some (n, (numP n).length) := by
  unfold numAt
  rw [List.drop_left]
  unfold numP
  rw [parse_vint r (zz n) 0 0 (by omega) (zz_lt n h1 h2) (.inl rfl), Option.map_some]
  simp [unzz_zz]
theorem numAt_cut (pre r : List UInt8) (n : Int) (k : Nat) (hk : k < (numP n).length) : numAt ((pre ++ (numP n ++ r)).take (pre.length + k)) pre.length = none := by
  unfold numAt
  rw [List.take_length_add_append, List.drop_left, List.take_append_of_le_length (by omega)]
  unfold numP at hk ⊢
  rw [parse_cut _ _ _ _ hk]; rfl
/-- Neither of two numbers begins the other one. -/
theorem numP_apart (m n : Int) (a b : List UInt8) (hm1 : -9223372036854775808 ≤ m) (hm2 : m ≤ 9223372036854775807) (hn1 : -9223372036854775808 ≤ n) (hn2 : n ≤ 9223372036854775807) (h : numP m ++ a = numP n ++ b) : m = n := by
  have e1 := numAt_at [] a m hm1 hm2
  have e2 := numAt_at [] b n hn1 hn2
  rw [List.nil_append, List.length_nil] at e1 e2
  rw [h, e2] at e1
  simp at e1
  exact e1.1.symm
theorem take_split {a b : List UInt8} {k : Nat} (hk : k = min a.length b.length) (h : a.take k = b.take k) : ∃ c d, a ++ c = b ++ d := by
  rcases Nat.le_total a.length b.length with hl | hl
  · have e : k = a.length := by omega
    rw [e, List.take_length] at h
    refine ⟨b.drop a.length, [], ?_⟩
    conv => lhs; lhs; rw [h]
    rw [List.take_append_drop, List.append_nil]
  · have e : k = b.length := by omega
    rw [e, List.take_length] at h
    refine ⟨[], a.drop b.length, ?_⟩
    conv => rhs; lhs; rw [← h]
    rw [List.take_append_drop, List.append_nil]
theorem textP_apart (s t a b : List UInt8) (hs : s.length ≤ 1000000000) (ht : t.length ≤ 1000000000) (h : textP s ++ a = textP t ++ b) : s = t := by
  unfold textP at h
  rw [List.append_assoc, List.append_assoc] at h
  have hl := numP_apart _ _ _ _ (by omega) (by omega) (by omega) (by omega) h
  rw [hl] at h
  have h2 := List.append_cancel_left h
  have e : s.length = t.length := by omega
  have h3 := congrArg (List.take s.length) h2
  rw [List.take_left, e, List.take_left] at h3
  exact h3
theorem numP_same (m n : Int) (hm1 : -9223372036854775808 ≤ m) (hm2 : m ≤ 9223372036854775807) (hn1 : -9223372036854775808 ≤ n) (hn2 : n ≤ 9223372036854775807) : numP m = numP n ↔ m = n :=
  ⟨fun h => numP_apart m n [] [] hm1 hm2 hn1 hn2 (by rw [h]), fun h => by rw [h]⟩
theorem textP_same (s t : List UInt8) (hs : s.length ≤ 1000000000) (ht : t.length ≤ 1000000000) : textP s = textP t ↔ s = t :=
  ⟨fun h => textP_apart s t [] [] hs ht (by rw [h]), fun h => by rw [h]⟩
theorem numP_begin (m n : Int) (k : Nat) (hk : k = min (numP m).length (numP n).length) (hm1 : -9223372036854775808 ≤ m) (hm2 : m ≤ 9223372036854775807) (hn1 : -9223372036854775808 ≤ n) (hn2 : n ≤ 9223372036854775807) (hne : m ≠ n) : (numP m).take k ≠ (numP n).take k := fun h => by
  obtain ⟨c, d, e⟩ := take_split hk h
  exact hne (numP_apart m n c d hm1 hm2 hn1 hn2 e)
theorem textP_begin (s t : List UInt8) (k : Nat) (hk : k = min (textP s).length (textP t).length) (hs : s.length ≤ 1000000000) (ht : t.length ≤ 1000000000) (hne : s ≠ t) : (textP s).take k ≠ (textP t).take k := fun h => by
  obtain ⟨c, d, e⟩ := take_split hk h
  exact hne (textP_apart s t c d hs ht e)
/-! How many bytes. -/
theorem vint_len_at : ∀ (j u : Nat), 128 ^ j ≤ u → u < 128 ^ (j + 1) → (vint u).length = j + 1
  | 0, u, h1, h2 => by rw [vint_small (by simpa using h2)]; rfl
  | j + 1, u, h1, h2 => by
    have hb : ¬ u < 128 := by
      have : 128 ^ 1 ≤ 128 ^ (j + 1) := Nat.pow_le_pow_right (by decide) (by omega)
      omega
    rw [vint_big hb, List.length_cons, vint_len_at j (u / 128) (by rw [Nat.pow_succ] at h1; omega) (by rw [Nat.pow_succ] at h2; omega)]
theorem vint_len_one (u : Nat) : (vint u).length = 1 ↔ u < 128 := by
  constructor
  · intro h
    rcases Nat.lt_or_ge u 128 with h1 | h1
    · exact h1
    · rw [vint_big (by omega), List.length_cons] at h
      have := vint_pos (u / 128)
      omega
  · intro h; rw [vint_small h]; rfl
theorem vint_last : ∀ (u : Nat), 0 < u → ∃ c : UInt8, (vint u)[(vint u).length - 1]? = some c ∧ 0 < c.toNat := by
  intro u
  induction u using Nat.strongRecOn with
  | _ u ih =>
    intro h0
    by_cases hs : u < 128
    · rw [vint_small hs]
      exact ⟨UInt8.ofNat u, rfl, by rw [toNat_small u (by omega)]; exact h0⟩
    · obtain ⟨c, h1, h2⟩ := ih (u / 128) (by omega) (by omega)
      refine ⟨c, ?_, h2⟩
      rw [vint_big hs, List.length_cons, Nat.add_sub_cancel]
      have := vint_pos (u / 128)
      have e : (vint (u / 128)).length = ((vint (u / 128)).length - 1) + 1 := by omega
      rw [e, List.getElem?_cons_succ]
      exact h1
theorem numP_one (n : Int) : (numP n).length = 1 ↔ -64 ≤ n ∧ n ≤ 63 := by
  unfold numP
  rw [vint_len_one]
  unfold zz
  split <;> omega
theorem numP_last (n : Int) (h : 1 < (numP n).length) : ∃ c : UInt8, (numP n)[(numP n).length - 1]? = some c ∧ 0 < c.toNat := by
  unfold numP at h ⊢
  refine vint_last _ ?_
  rcases Nat.eq_zero_or_pos (zz n) with h0 | h0
  · rw [h0, vint_small (by decide)] at h; simp at h
  · exact h0
theorem numP_len (n : Int) (j : Nat) (h1 : 128 ^ j ≤ zz n) (h2 : zz n < 128 ^ (j + 1)) : (numP n).length = j + 1 := vint_len_at j _ h1 h2
end Go.Proofs.Ytjaofdalmjiliaa
