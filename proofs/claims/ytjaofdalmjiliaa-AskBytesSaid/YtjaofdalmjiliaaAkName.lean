/-
  CONTRACTS OF value.Name AND the document's Name: both tell nameB; nothing in memory turns.
-/
import Derived.Test.YtjaofdalmjiliaaGivens
import Derived.Test.YtjaofdalmjiliaaRows
namespace Go.Proofs.Ytjaofdalmjiliaa
open Go.RowKit
set_option linter.unusedVariables false

theorem name_step (s : ByteArray) (k : Nat) (h : k < s.size) : okFrom (decide (k = 0)) (s.data.toList.drop k) = (okC (decide (k = 0)) s[k] && okFrom false (s.data.toList.drop (k + 1))) := by
  rw [List.drop_eq_getElem_cons (by simpa using h)]
  rfl
/-- The four kinds of bytes. -/
theorem byte_kinds (c : UInt8) : (97 ≤ (c.toNat : Int) ∧ (c.toNat : Int) ≤ 122) ∨ (48 ≤ (c.toNat : Int) ∧ (c.toNat : Int) ≤ 57) ∨ (c.toNat : Int) = 95 ∨ ((((c.toNat : Int) < 97 ∨ 122 < (c.toNat : Int)) ∧ ((c.toNat : Int) < 48 ∨ 57 < (c.toNat : Int))) ∧ (c.toNat : Int) ≠ 95) := by omega
theorem okC_a (f : Bool) (c : UInt8) (h : 97 ≤ (c.toNat : Int) ∧ (c.toNat : Int) ≤ 122) : okC f c = true := by
  unfold okC
  simp only [Bool.or_eq_true, Bool.and_eq_true, decide_eq_true_eq]
  exact .inl (by omega)
theorem okC_b (c : UInt8) (h : (48 ≤ (c.toNat : Int) ∧ (c.toNat : Int) ≤ 57) ∨ (c.toNat : Int) = 95) : okC false c = true := by
  unfold okC
  simp only [Bool.or_eq_true, Bool.and_eq_true, decide_eq_true_eq, Bool.not_false, true_and]
  exact .inr (by omega)
theorem okC_c (c : UInt8) (h : ¬ (97 ≤ (c.toNat : Int) ∧ (c.toNat : Int) ≤ 122)) : okC true c = false := by
  unfold okC
  rw [Bool.eq_false_iff]
  simp only [ne_eq, Bool.or_eq_true, Bool.and_eq_true, decide_eq_true_eq, Bool.not_true, Bool.false_eq_true, false_and, or_false]
  omega
theorem okC_d (f : Bool) (c : UInt8) (h : (((c.toNat : Int) < 97 ∨ 122 < (c.toNat : Int)) ∧ ((c.toNat : Int) < 48 ∨ 57 < (c.toNat : Int))) ∧ (c.toNat : Int) ≠ 95) : okC f c = false := by
  unfold okC
  rw [Bool.eq_false_iff]
  simp only [ne_eq, Bool.or_eq_true, Bool.and_eq_true, decide_eq_true_eq]
  omega
/-- What is left to be looked at. -/
def NameRel (s : ByteArray) (k : Nat) : Prop := okFrom true s.data.toList = okFrom (decide (k = 0)) (s.data.toList.drop k)
theorem name_go {s : ByteArray} {k : Nat} (h : k < s.size) (hr : NameRel s k) (ho : okC (decide (k = 0)) s[k] = true) : NameRel s (k + 1) := by
  unfold NameRel at *
  rw [hr, name_step s k h, ho]
  rfl
theorem name_stop {s : ByteArray} {k : Nat} (h : k < s.size) (hr : NameRel s k) (ho : okC (decide (k = 0)) s[k] = false) : nameB s = false := by
  unfold NameRel at hr
  unfold nameB
  rw [hr, name_step s k h, ho]
  rfl
theorem name_end {s : ByteArray} (hr : NameRel s s.size) : nameB s = (decide (1 ≤ s.size) && decide (s.size ≤ 16)) := by
  unfold NameRel at hr
  unfold nameB
  rw [hr, List.drop_of_length_le (by simp), okFrom]
  rfl
/-- A text with nothing in it, and one with something, as the walk asks. -/
theorem text_zero {s : ByteArray} (h : s.size = 0) : s.toList = [] ∧ (!s.toList.isEmpty) = false ∧ s.toList.isEmpty = true := by
  have e : s.toList = [] := by
    rw [ByteArray.toList_eq]
    exact List.eq_nil_of_length_eq_zero (by simpa using h)
  rw [e]
  exact ⟨rfl, rfl, rfl⟩
theorem text_some {s : ByteArray} (h : 1 ≤ s.size) : (¬ s.toList = []) ∧ (!s.toList.isEmpty) = true ∧ s.toList.isEmpty = false := by
  have e : ¬ s.toList = [] := by
    rw [ByteArray.toList_eq]
    intro h0
    have : s.data.toList.length = 0 := by rw [h0]; rfl
    have h2 : s.data.toList.length = s.size := by simp
    omega
  refine ⟨e, ?_, ?_⟩
  · rcases h : s.toList with _ | ⟨x, l⟩
    · exact absurd h e
    · rfl
  · rcases h : s.toList with _ | ⟨x, l⟩
    · exact absurd h e
    · rfl
set_option maxHeartbeats 1000000 in
theorem vname_any (s : ByteArray) (hs : s.size ≤ maxLen) (w : World) :
    Calls Try.prog 35 #[.string s] w fun e w' => e = .returned (.bool (nameB s)) ∧ w = w' := by
  unfold maxLen at hs
  go_enter Try.func35, Try.ntmps35
  go_wp2
  go_loop [9] (fun i => ∃ k : Nat, k ≤ s.size ∧ i = .int .i64 k ∧ Hid (NameRel s k)) (fun i => s.size - (intOf i).toNat)
  case atStart => exact ⟨0, by omega, rfl, hide (by unfold NameRel; rfl)⟩
  case round =>
    obtain ⟨k, hk, rfl, HR⟩ := hrel
    by_cases hlt : k < s.size
    · rcases byte_kinds s[k] with ⟨h1, h2⟩ | h | h | ⟨⟨h1, h2⟩, h3⟩
      · have HG := hide (name_go hlt HR.out (okC_a _ _ ⟨h1, h2⟩))
        clear HR
        go_wp2
        go_round
        case rel => exact ⟨k + 1, by omega, by go_num, HG⟩
        case measure => simp [intOf]; omega
      · have hn : ¬ 97 ≤ (s[k].toNat : Int) := by omega
        obtain ⟨h1, h2⟩ := h
        rcases Nat.eq_zero_or_pos k with rfl | h0
        · have HG := hide (name_stop hlt HR.out (okC_c _ (by omega)))
          clear HR
          go_wp2
          go_ret
          exact ⟨by rw [HG.out]; rfl, rfl⟩
        · have HG := hide (name_go hlt HR.out (by rw [decide_eq_false (by omega)]; exact okC_b _ (.inl ⟨h1, h2⟩)))
          clear HR
          go_wp2
          go_round
          case rel => exact ⟨k + 1, by omega, by go_num, HG⟩
          case measure => simp [intOf]; omega
      · have hn : ¬ 97 ≤ (s[k].toNat : Int) := by omega
        have hn2 : ¬ (s[k].toNat : Int) ≤ 57 := by omega
        rcases Nat.eq_zero_or_pos k with rfl | h0
        · have HG := hide (name_stop hlt HR.out (okC_c _ (by omega)))
          clear HR
          go_wp2
          go_ret
          exact ⟨by rw [HG.out]; rfl, rfl⟩
        · have HG := hide (name_go hlt HR.out (by rw [decide_eq_false (by omega)]; exact okC_b _ (.inr h)))
          clear HR
          go_wp2
          go_round
          case rel => exact ⟨k + 1, by omega, by go_num, HG⟩
          case measure => simp [intOf]; omega
      · have HG := hide (name_stop hlt HR.out (okC_d _ _ ⟨⟨h1, h2⟩, h3⟩))
        have h95 : ((s[k].toNat : Int) == 95) = false := beq_eq_false_iff_ne.2 h3
        clear HR
        rcases h1 with h1 | h1 <;> rcases h2 with h2 | h2
        · rcases Nat.eq_zero_or_pos k with rfl | h0
          · go_wp2
            go_ret
            exact ⟨by rw [HG.out]; rfl, rfl⟩
          · go_wp2
            go_ret
            exact ⟨by rw [HG.out]; rfl, rfl⟩
        · have h57 : decide ((s[k].toNat : Int) ≤ 57) = false := decide_eq_false (by omega)
          rcases Nat.eq_zero_or_pos k with rfl | h0
          · go_wp2
            go_ret
            exact ⟨by rw [HG.out]; rfl, rfl⟩
          · go_wp2
            go_ret
            exact ⟨by rw [HG.out]; rfl, rfl⟩
        · exfalso; omega
        · have h57 : decide ((s[k].toNat : Int) ≤ 57) = false := decide_eq_false (by omega)
          have h122 : decide ((s[k].toNat : Int) ≤ 122) = false := decide_eq_false (by omega)
          rcases Nat.eq_zero_or_pos k with rfl | h0
          · go_wp2
            go_ret
            exact ⟨by rw [HG.out]; rfl, rfl⟩
          · go_wp2
            go_ret
            exact ⟨by rw [HG.out]; rfl, rfl⟩
    · obtain rfl : k = s.size := by omega
      have HE := hide (name_end HR.out)
      clear HR
      rcases Nat.eq_zero_or_pos s.size with h0 | h0
      · obtain ⟨e1, e2, e3⟩ := text_zero h0
        have HF : Hid (nameB s = false) := hide (by rw [HE.out, h0]; rfl)
        clear HE h0
        go_wp2
        go_ret
        exact ⟨by rw [HF.out]; rfl, rfl⟩
      · obtain ⟨e1, e2, e3⟩ := text_some h0
        by_cases h16 : s.size ≤ 16
        · have HF : Hid (nameB s = true) := hide (by rw [HE.out, decide_eq_true h16, decide_eq_true (show 1 ≤ s.size from h0)]; rfl)
          have d16 : decide ((s.size : Int) ≤ 16) = true := decide_eq_true (by omega)
          clear HE
          go_wp2
          go_ret
          exact ⟨by rw [HF.out]; rfl, rfl⟩
        · have HF : Hid (nameB s = false) := hide (by rw [HE.out, decide_eq_false h16, Bool.and_false])
          have d16 : decide ((s.size : Int) ≤ 16) = false := decide_eq_false (by omega)
          clear HE
          go_wp2
          go_ret
          exact ⟨by rw [HF.out]; rfl, rfl⟩
set_option maxHeartbeats 1000000 in
theorem rname_any (s : ByteArray) (hs : s.size ≤ maxLen) (w : World) :
    Calls Try.prog 37 #[.string s] w fun e w' => e = .returned (.bool (nameB s)) ∧ w = w' := by
  unfold maxLen at hs
  go_enter Try.func37, Try.ntmps37
  go_wp2
  go_loop [3] (fun i => ∃ k : Nat, k ≤ s.size ∧ i = .int .i64 k ∧ Hid (NameRel s k)) (fun i => s.size - (intOf i).toNat)
  case atStart => exact ⟨0, by omega, rfl, hide (by unfold NameRel; rfl)⟩
  case round =>
    obtain ⟨k, hk, rfl, HR⟩ := hrel
    by_cases hlt : k < s.size
    · have K : ∀ g : Bool, okC (decide (k = 0)) s[k] = g → ((if g then NameRel s (k + 1) else nameB s = false) : Prop) := fun g hg => by
        cases g
        · exact name_stop hlt HR.out hg
        · exact name_go hlt HR.out hg
      have HK := hide K
      clear K HR
      have kz : decide ((k : Int) > 0) = decide (0 < k) := by rw [Bool.eq_iff_iff]; simp
      by_cases ha : 97 ≤ (s[k].toNat : Int)
      · by_cases hz : (s[k].toNat : Int) ≤ 122
        · have HG : Hid (NameRel s (k + 1)) := hide (HK.out true (okC_a _ _ ⟨ha, hz⟩))
          clear HK
          have d1 : decide (97 ≤ (s[k].toNat : Int)) = true := decide_eq_true ha
          have d2 : decide ((s[k].toNat : Int) ≤ 122) = true := decide_eq_true hz
          go_wp2
          go_round
          case rel => exact ⟨k + 1, by omega, by go_num, HG⟩
          case measure => simp [intOf]; omega
        · have HG : Hid (nameB s = false) := hide (HK.out false (okC_d _ _ ⟨⟨.inr (by omega), .inr (by omega)⟩, by omega⟩))
          clear HK
          have d1 : decide (97 ≤ (s[k].toNat : Int)) = true := decide_eq_true ha
          have d2 : decide ((s[k].toNat : Int) ≤ 122) = false := decide_eq_false hz
          have d3 : decide (48 ≤ (s[k].toNat : Int)) = true := decide_eq_true (by omega)
          have d4 : decide ((s[k].toNat : Int) ≤ 57) = false := decide_eq_false (by omega)
          have d5 : ((s[k].toNat : Int) == 95) = false := beq_eq_false_iff_ne.2 (by omega)
          rcases Nat.eq_zero_or_pos k with rfl | h0
          · go_wp2
            go_ret
            exact ⟨by rw [HG.out]; rfl, rfl⟩
          · go_wp2
            go_ret
            exact ⟨by rw [HG.out]; rfl, rfl⟩
      · have d1 : decide (97 ≤ (s[k].toNat : Int)) = false := decide_eq_false ha
        rcases Nat.eq_zero_or_pos k with rfl | h0
        · have HG : Hid (nameB s = false) := hide (HK.out false (okC_c _ (by omega)))
          clear HK
          go_wp2
          go_ret
          exact ⟨by rw [HG.out]; rfl, rfl⟩
        · by_cases h95 : (s[k].toNat : Int) = 95
          · have HG : Hid (NameRel s (k + 1)) := hide (HK.out true (by rw [decide_eq_false (by omega)]; exact okC_b _ (.inr h95)))
            clear HK
            have d3 : decide (48 ≤ (s[k].toNat : Int)) = true := decide_eq_true (by omega)
            have d4 : decide ((s[k].toNat : Int) ≤ 57) = false := decide_eq_false (by omega)
            have d5 : ((s[k].toNat : Int) == 95) = true := beq_iff_eq.2 h95
            clear h95
            go_wp2
            go_round
            case rel => exact ⟨k + 1, by omega, by go_num, HG⟩
            case measure => simp [intOf]; omega
          · have d5 : ((s[k].toNat : Int) == 95) = false := beq_eq_false_iff_ne.2 h95
            by_cases h48 : 48 ≤ (s[k].toNat : Int)
            · have d3 : decide (48 ≤ (s[k].toNat : Int)) = true := decide_eq_true h48
              by_cases h57 : (s[k].toNat : Int) ≤ 57
              · have HG : Hid (NameRel s (k + 1)) := hide (HK.out true (by rw [decide_eq_false (by omega)]; exact okC_b _ (.inl ⟨h48, h57⟩)))
                clear HK
                have d4 : decide ((s[k].toNat : Int) ≤ 57) = true := decide_eq_true h57
                go_wp2
                go_round
                case rel => exact ⟨k + 1, by omega, by go_num, HG⟩
                case measure => simp [intOf]; omega
              · have HG : Hid (nameB s = false) := hide (HK.out false (okC_d _ _ ⟨⟨.inl (by omega), .inr (by omega)⟩, h95⟩))
                clear HK
                have d4 : decide ((s[k].toNat : Int) ≤ 57) = false := decide_eq_false h57
                go_wp2
                go_ret
                exact ⟨by rw [HG.out]; rfl, rfl⟩
            · have HG : Hid (nameB s = false) := hide (HK.out false (okC_d _ _ ⟨⟨.inl (by omega), .inl (by omega)⟩, h95⟩))
              clear HK
              have d3 : decide (48 ≤ (s[k].toNat : Int)) = false := decide_eq_false h48
              go_wp2
              go_ret
              exact ⟨by rw [HG.out]; rfl, rfl⟩
    · obtain rfl : k = s.size := by omega
      have HE := hide (name_end HR.out)
      clear HR
      by_cases h0 : 1 ≤ s.size
      · by_cases h16 : s.size ≤ 16
        · have HF : Hid (nameB s = true) := hide (by rw [HE.out, decide_eq_true h16, decide_eq_true h0]; rfl)
          have d16 : decide ((s.size : Int) ≤ 16) = true := decide_eq_true (by omega)
          have d1 : decide (1 ≤ (s.size : Int)) = true := decide_eq_true (by omega)
          clear HE
          go_wp2
          go_ret
          exact ⟨by rw [HF.out]; rfl, rfl⟩
        · have HF : Hid (nameB s = false) := hide (by rw [HE.out, decide_eq_false h16, Bool.and_false])
          have d16 : decide ((s.size : Int) ≤ 16) = false := decide_eq_false (by omega)
          have d1 : decide (1 ≤ (s.size : Int)) = true := decide_eq_true (by omega)
          clear HE
          go_wp2
          go_ret
          exact ⟨by rw [HF.out]; rfl, rfl⟩
      · have HF : Hid (nameB s = false) := hide (by rw [HE.out, decide_eq_false h0]; rfl)
        have d1 : decide (1 ≤ (s.size : Int)) = false := decide_eq_false (by omega)
        clear HE
        go_wp2
        go_ret
        exact ⟨by rw [HF.out]; rfl, rfl⟩
end Go.Proofs.Ytjaofdalmjiliaa
