/-
  CONTRACTS OF value.Right AND the document's RightValue: both tell rightB; the parameter's box is new.
-/
import Derived.Test.YtjaofdalmjiliaaAkName
import Derived.Test.YtjaofdalmjiliaaAskRunsW
namespace Go.Proofs.Ytjaofdalmjiliaa
open Go.RowKit
set_option linter.unusedVariables false

theorem size_zero {s : ByteArray} : s.size = 0 ∨ 1 ≤ s.size := by omega
/-- It returned v, and laid new memory at most. -/
def Told (v : Value) (w : World) (e : Ending) (w' : World) : Prop := e = .returned v ∧ Below w.heap.size w w'
theorem str_eq_empty {s : ByteArray} (h : s.size = 0) : (decide (s.toList = [])) = true := decide_eq_true (text_zero h).1
theorem str_ne_empty {s : ByteArray} (h : 1 ≤ s.size) : (decide (s.toList = [])) = false := decide_eq_false (text_some h).1
theorem right_1 {v : V3} (h : v.1 = 1) : rightB v = ((decide (v.2.1 = 0) || decide (v.2.1 = 1)) && decide (v.2.2.size = 0)) := by unfold rightB; rw [if_pos h]
theorem right_2 {v : V3} (h : v.1 = 2) : rightB v = decide (v.2.2.size = 0) := by unfold rightB; rw [if_neg (by omega), if_pos h]
theorem right_3 {v : V3} (h : v.1 = 3) : rightB v = (decide (v.2.1 = 0) && decide (v.2.2.size ≤ 64)) := by unfold rightB; rw [if_neg (by omega), if_neg (by omega), if_pos h]
theorem right_4 {v : V3} (h : v.1 = 4) : rightB v = ((decide (0 ≤ v.2.1) && decide (v.2.1 ≤ 1099511627776)) && decide (v.2.2.size = 0)) := by unfold rightB; rw [if_neg (by omega), if_neg (by omega), if_neg (by omega), if_pos h]
theorem right_5 {v : V3} (h : v.1 = 5) : rightB v = (decide (v.2.1 = 0) && nameB v.2.2) := by unfold rightB; rw [if_neg (by omega), if_neg (by omega), if_neg (by omega), if_neg (by omega), if_pos h]
theorem right_0 {v : V3} (h : v.1 ≠ 1 ∧ v.1 ≠ 2 ∧ v.1 ≠ 3 ∧ v.1 ≠ 4 ∧ v.1 ≠ 5) : rightB v = false := by unfold rightB; rw [if_neg (by omega), if_neg (by omega), if_neg (by omega), if_neg (by omega), if_neg (by omega)]
set_option maxHeartbeats 1000000 in
theorem vright_any (k n : Int) (s : ByteArray) (hs : s.size ≤ maxLen) (w : World) :
    Calls Try.prog 50 #[.agg #[.int .i64 k, .int .i64 n, .string s]] w (Told (.bool (rightB (k, n, s))) w) := by
  unfold maxLen at hs
  unfold Told
  by_cases k1 : k = 1
  · have HR := hide (right_1 (v := (k, n, s)) k1)
    simp only at HR
    subst k1
    by_cases n0 : n = 0
    · have b0 : (n == 0) = true := beq_iff_eq.2 n0
      rcases size_zero (s := s) with z | z
      · obtain ⟨e1, e2, e3⟩ := text_zero z
        have HF : Hid (rightB (1, n, s) = true) := hide (by rw [HR.out, decide_eq_true n0, decide_eq_true z]; rfl)
        clear HR n0 z
        go_enter Try.func50, Try.ntmps50
        go_wp2
        go_ret
        exact ⟨by rw [HF.out]; rfl, below_new _ _⟩
      · obtain ⟨e1, e2, e3⟩ := text_some z
        have HF : Hid (rightB (1, n, s) = false) := hide (by rw [HR.out, decide_eq_false (show ¬ s.size = 0 by omega), Bool.and_false])
        clear HR n0 z
        go_enter Try.func50, Try.ntmps50
        go_wp2
        go_ret
        exact ⟨by rw [HF.out]; rfl, below_new _ _⟩
    · have b0 : (n == 0) = false := beq_eq_false_iff_ne.2 n0
      by_cases n1 : n = 1
      · have b1 : (n == 1) = true := beq_iff_eq.2 n1
        rcases size_zero (s := s) with z | z
        · obtain ⟨e1, e2, e3⟩ := text_zero z
          have HF : Hid (rightB (1, n, s) = true) := hide (by rw [HR.out, decide_eq_true n1, decide_eq_true z, Bool.or_true]; rfl)
          clear HR n0 n1 z
          go_enter Try.func50, Try.ntmps50
          go_wp2
          go_ret
          exact ⟨by rw [HF.out]; rfl, below_new _ _⟩
        · obtain ⟨e1, e2, e3⟩ := text_some z
          have HF : Hid (rightB (1, n, s) = false) := hide (by rw [HR.out, decide_eq_false (show ¬ s.size = 0 by omega), Bool.and_false])
          clear HR n0 n1 z
          go_enter Try.func50, Try.ntmps50
          go_wp2
          go_ret
          exact ⟨by rw [HF.out]; rfl, below_new _ _⟩
      · have b1 : (n == 1) = false := beq_eq_false_iff_ne.2 n1
        have HF : Hid (rightB (1, n, s) = false) := hide (by rw [HR.out, decide_eq_false n0, decide_eq_false n1]; rfl)
        clear HR
        go_enter Try.func50, Try.ntmps50
        go_wp2
        go_ret
        exact ⟨by rw [HF.out]; rfl, below_new _ _⟩
  by_cases k2 : k = 2
  · have HR := hide (right_2 (v := (k, n, s)) k2)
    simp only at HR
    subst k2
    rcases size_zero (s := s) with z | z
    · obtain ⟨e1, e2, e3⟩ := text_zero z
      have HF : Hid (rightB (2, n, s) = true) := hide (by rw [HR.out, decide_eq_true z])
      clear HR z
      go_enter Try.func50, Try.ntmps50
      go_wp2
      go_ret
      exact ⟨by rw [HF.out]; rfl, below_new _ _⟩
    · obtain ⟨e1, e2, e3⟩ := text_some z
      have HF : Hid (rightB (2, n, s) = false) := hide (by rw [HR.out, decide_eq_false (show ¬ s.size = 0 by omega)])
      clear HR z
      go_enter Try.func50, Try.ntmps50
      go_wp2
      go_ret
      exact ⟨by rw [HF.out]; rfl, below_new _ _⟩
  by_cases k3 : k = 3
  · have HR := hide (right_3 (v := (k, n, s)) k3)
    simp only at HR
    subst k3
    by_cases n0 : n = 0
    · have b0 : (n == 0) = true := beq_iff_eq.2 n0
      by_cases z : s.size ≤ 64
      · have HF : Hid (rightB (3, n, s) = true) := hide (by rw [HR.out, decide_eq_true n0, decide_eq_true z]; rfl)
        have d : decide ((s.size : Int) ≤ 64) = true := decide_eq_true (by omega)
        clear HR n0 z
        go_enter Try.func50, Try.ntmps50
        go_wp2
        go_ret
        exact ⟨by rw [HF.out]; rfl, below_new _ _⟩
      · have HF : Hid (rightB (3, n, s) = false) := hide (by rw [HR.out, decide_eq_false z, Bool.and_false])
        have d : decide ((s.size : Int) ≤ 64) = false := decide_eq_false (by omega)
        clear HR n0 z
        go_enter Try.func50, Try.ntmps50
        go_wp2
        go_ret
        exact ⟨by rw [HF.out]; rfl, below_new _ _⟩
    · have b0 : (n == 0) = false := beq_eq_false_iff_ne.2 n0
      have HF : Hid (rightB (3, n, s) = false) := hide (by rw [HR.out, decide_eq_false n0]; rfl)
      clear HR
      go_enter Try.func50, Try.ntmps50
      go_wp2
      go_ret
      exact ⟨by rw [HF.out]; rfl, below_new _ _⟩
  by_cases k4 : k = 4
  · have HR := hide (right_4 (v := (k, n, s)) k4)
    simp only at HR
    subst k4
    by_cases n0 : 0 ≤ n
    · have b0 : decide (0 ≤ n) = true := decide_eq_true n0
      by_cases n1 : n ≤ 1099511627776
      · have b1 : decide (n ≤ 1099511627776) = true := decide_eq_true n1
        rcases size_zero (s := s) with z | z
        · obtain ⟨e1, e2, e3⟩ := text_zero z
          have HF : Hid (rightB (4, n, s) = true) := hide (by rw [HR.out, b0, b1, decide_eq_true z]; rfl)
          clear HR z
          go_enter Try.func50, Try.ntmps50
          go_wp2
          go_ret
          exact ⟨by rw [HF.out]; rfl, below_new _ _⟩
        · obtain ⟨e1, e2, e3⟩ := text_some z
          have HF : Hid (rightB (4, n, s) = false) := hide (by rw [HR.out, decide_eq_false (show ¬ s.size = 0 by omega), Bool.and_false])
          clear HR z
          go_enter Try.func50, Try.ntmps50
          go_wp2
          go_ret
          exact ⟨by rw [HF.out]; rfl, below_new _ _⟩
      · have b1 : decide (n ≤ 1099511627776) = false := decide_eq_false n1
        have HF : Hid (rightB (4, n, s) = false) := hide (by rw [HR.out, b1, Bool.and_false]; rfl)
        clear HR
        go_enter Try.func50, Try.ntmps50
        go_wp2
        go_ret
        exact ⟨by rw [HF.out]; rfl, below_new _ _⟩
    · have b0 : decide (0 ≤ n) = false := decide_eq_false n0
      have HF : Hid (rightB (4, n, s) = false) := hide (by rw [HR.out, b0]; rfl)
      clear HR
      go_enter Try.func50, Try.ntmps50
      go_wp2
      go_ret
      exact ⟨by rw [HF.out]; rfl, below_new _ _⟩
  by_cases k5 : k = 5
  · have HR := hide (right_5 (v := (k, n, s)) k5)
    simp only at HR
    subst k5
    by_cases n0 : n = 0
    · have b0 : (n == 0) = true := beq_iff_eq.2 n0
      have HF : Hid (rightB (5, n, s) = nameB s) := hide (by rw [HR.out, decide_eq_true n0]; rfl)
      clear HR n0
      go_enter Try.func50, Try.ntmps50
      go_wp2_with (go_at_call 35; refine (vname_any s (by unfold maxLen; omega) _).mono ?_; rintro e w' ⟨rfl, rfl⟩)
      go_ret
      exact ⟨by rw [HF.out]; rfl, below_new _ _⟩
    · have b0 : (n == 0) = false := beq_eq_false_iff_ne.2 n0
      have HF : Hid (rightB (5, n, s) = false) := hide (by rw [HR.out, decide_eq_false n0]; rfl)
      clear HR
      go_enter Try.func50, Try.ntmps50
      go_wp2
      go_ret
      exact ⟨by rw [HF.out]; rfl, below_new _ _⟩
  have HF : Hid (rightB (k, n, s) = false) := hide (right_0 (v := (k, n, s)) ⟨k1, k2, k3, k4, k5⟩)
  go_enter Try.func50, Try.ntmps50
  go_wp2
  go_ret
  exact ⟨by rw [HF.out]; rfl, below_new _ _⟩
set_option maxHeartbeats 1000000 in
theorem rright_any (k n : Int) (s : ByteArray) (hs : s.size ≤ maxLen) (w : World) :
    Calls Try.prog 51 #[.agg #[.int .i64 k, .int .i64 n, .string s]] w (Told (.bool (rightB (k, n, s))) w) := by
  unfold maxLen at hs
  unfold Told
  by_cases k1 : k = 1
  · have HR := hide (right_1 (v := (k, n, s)) k1)
    simp only at HR
    subst k1
    by_cases n0 : n = 0
    · have b0 : (n == 0) = true := beq_iff_eq.2 n0
      rcases size_zero (s := s) with z | z
      · obtain ⟨e1, e2, e3⟩ := text_zero z
        have HF : Hid (rightB (1, n, s) = true) := hide (by rw [HR.out, decide_eq_true n0, decide_eq_true z]; rfl)
        clear HR n0 z
        go_enter Try.func51, Try.ntmps51
        go_wp2
        go_ret
        exact ⟨by rw [HF.out]; rfl, below_new _ _⟩
      · obtain ⟨e1, e2, e3⟩ := text_some z
        have HF : Hid (rightB (1, n, s) = false) := hide (by rw [HR.out, decide_eq_false (show ¬ s.size = 0 by omega), Bool.and_false])
        clear HR n0 z
        go_enter Try.func51, Try.ntmps51
        go_wp2
        go_ret
        exact ⟨by rw [HF.out]; rfl, below_new _ _⟩
    · have b0 : (n == 0) = false := beq_eq_false_iff_ne.2 n0
      by_cases n1 : n = 1
      · have b1 : (n == 1) = true := beq_iff_eq.2 n1
        rcases size_zero (s := s) with z | z
        · obtain ⟨e1, e2, e3⟩ := text_zero z
          have HF : Hid (rightB (1, n, s) = true) := hide (by rw [HR.out, decide_eq_true n1, decide_eq_true z, Bool.or_true]; rfl)
          clear HR n0 n1 z
          go_enter Try.func51, Try.ntmps51
          go_wp2
          go_ret
          exact ⟨by rw [HF.out]; rfl, below_new _ _⟩
        · obtain ⟨e1, e2, e3⟩ := text_some z
          have HF : Hid (rightB (1, n, s) = false) := hide (by rw [HR.out, decide_eq_false (show ¬ s.size = 0 by omega), Bool.and_false])
          clear HR n0 n1 z
          go_enter Try.func51, Try.ntmps51
          go_wp2
          go_ret
          exact ⟨by rw [HF.out]; rfl, below_new _ _⟩
      · have b1 : (n == 1) = false := beq_eq_false_iff_ne.2 n1
        have HF : Hid (rightB (1, n, s) = false) := hide (by rw [HR.out, decide_eq_false n0, decide_eq_false n1]; rfl)
        clear HR
        go_enter Try.func51, Try.ntmps51
        go_wp2
        go_ret
        exact ⟨by rw [HF.out]; rfl, below_new _ _⟩
  by_cases k2 : k = 2
  · have HR := hide (right_2 (v := (k, n, s)) k2)
    simp only at HR
    subst k2
    rcases size_zero (s := s) with z | z
    · obtain ⟨e1, e2, e3⟩ := text_zero z
      have HF : Hid (rightB (2, n, s) = true) := hide (by rw [HR.out, decide_eq_true z])
      clear HR z
      go_enter Try.func51, Try.ntmps51
      go_wp2
      go_ret
      exact ⟨by rw [HF.out]; rfl, below_new _ _⟩
    · obtain ⟨e1, e2, e3⟩ := text_some z
      have HF : Hid (rightB (2, n, s) = false) := hide (by rw [HR.out, decide_eq_false (show ¬ s.size = 0 by omega)])
      clear HR z
      go_enter Try.func51, Try.ntmps51
      go_wp2
      go_ret
      exact ⟨by rw [HF.out]; rfl, below_new _ _⟩
  by_cases k3 : k = 3
  · have HR := hide (right_3 (v := (k, n, s)) k3)
    simp only at HR
    subst k3
    by_cases n0 : n = 0
    · have b0 : (n == 0) = true := beq_iff_eq.2 n0
      by_cases z : s.size ≤ 64
      · have HF : Hid (rightB (3, n, s) = true) := hide (by rw [HR.out, decide_eq_true n0, decide_eq_true z]; rfl)
        have d : decide ((s.size : Int) ≤ 64) = true := decide_eq_true (by omega)
        clear HR n0 z
        go_enter Try.func51, Try.ntmps51
        go_wp2
        go_ret
        exact ⟨by rw [HF.out]; rfl, below_new _ _⟩
      · have HF : Hid (rightB (3, n, s) = false) := hide (by rw [HR.out, decide_eq_false z, Bool.and_false])
        have d : decide ((s.size : Int) ≤ 64) = false := decide_eq_false (by omega)
        clear HR n0 z
        go_enter Try.func51, Try.ntmps51
        go_wp2
        go_ret
        exact ⟨by rw [HF.out]; rfl, below_new _ _⟩
    · have b0 : (n == 0) = false := beq_eq_false_iff_ne.2 n0
      have HF : Hid (rightB (3, n, s) = false) := hide (by rw [HR.out, decide_eq_false n0]; rfl)
      clear HR
      go_enter Try.func51, Try.ntmps51
      go_wp2
      go_ret
      exact ⟨by rw [HF.out]; rfl, below_new _ _⟩
  by_cases k4 : k = 4
  · have HR := hide (right_4 (v := (k, n, s)) k4)
    simp only at HR
    subst k4
    by_cases n0 : 0 ≤ n
    · have b0 : decide (0 ≤ n) = true := decide_eq_true n0
      by_cases n1 : n ≤ 1099511627776
      · have b1 : decide (n ≤ 1099511627776) = true := decide_eq_true n1
        rcases size_zero (s := s) with z | z
        · obtain ⟨e1, e2, e3⟩ := text_zero z
          have HF : Hid (rightB (4, n, s) = true) := hide (by rw [HR.out, b0, b1, decide_eq_true z]; rfl)
          clear HR z
          go_enter Try.func51, Try.ntmps51
          go_wp2
          go_ret
          exact ⟨by rw [HF.out]; rfl, below_new _ _⟩
        · obtain ⟨e1, e2, e3⟩ := text_some z
          have HF : Hid (rightB (4, n, s) = false) := hide (by rw [HR.out, decide_eq_false (show ¬ s.size = 0 by omega), Bool.and_false])
          clear HR z
          go_enter Try.func51, Try.ntmps51
          go_wp2
          go_ret
          exact ⟨by rw [HF.out]; rfl, below_new _ _⟩
      · have b1 : decide (n ≤ 1099511627776) = false := decide_eq_false n1
        have HF : Hid (rightB (4, n, s) = false) := hide (by rw [HR.out, b1, Bool.and_false]; rfl)
        clear HR
        go_enter Try.func51, Try.ntmps51
        go_wp2
        go_ret
        exact ⟨by rw [HF.out]; rfl, below_new _ _⟩
    · have b0 : decide (0 ≤ n) = false := decide_eq_false n0
      have HF : Hid (rightB (4, n, s) = false) := hide (by rw [HR.out, b0]; rfl)
      clear HR
      go_enter Try.func51, Try.ntmps51
      go_wp2
      go_ret
      exact ⟨by rw [HF.out]; rfl, below_new _ _⟩
  by_cases k5 : k = 5
  · have HR := hide (right_5 (v := (k, n, s)) k5)
    simp only at HR
    subst k5
    by_cases n0 : n = 0
    · have b0 : (n == 0) = true := beq_iff_eq.2 n0
      have HF : Hid (rightB (5, n, s) = nameB s) := hide (by rw [HR.out, decide_eq_true n0]; rfl)
      clear HR n0
      go_enter Try.func51, Try.ntmps51
      go_wp2_with (go_at_call 37; refine (rname_any s (by unfold maxLen; omega) _).mono ?_; rintro e w' ⟨rfl, rfl⟩)
      go_ret
      exact ⟨by rw [HF.out]; rfl, below_new _ _⟩
    · have b0 : (n == 0) = false := beq_eq_false_iff_ne.2 n0
      have HF : Hid (rightB (5, n, s) = false) := hide (by rw [HR.out, decide_eq_false n0]; rfl)
      clear HR
      go_enter Try.func51, Try.ntmps51
      go_wp2
      go_ret
      exact ⟨by rw [HF.out]; rfl, below_new _ _⟩
  have HF : Hid (rightB (k, n, s) = false) := hide (right_0 (v := (k, n, s)) ⟨k1, k2, k3, k4, k5⟩)
  go_enter Try.func51, Try.ntmps51
  go_wp2
  go_ret
  exact ⟨by rw [HF.out]; rfl, below_new _ _⟩
end Go.Proofs.Ytjaofdalmjiliaa
