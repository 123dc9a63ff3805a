/-
  PLAIN: ITEMS BEHIND EACH OTHER, READ BACK, WHOLE AND CUT SHORT. No program.
-/
import Derived.Test.YtinlnfhicnejmaaPkInP
import Derived.Test.YtinlnfhicnejmaaPkText2
namespace Go.Proofs.Ytinlnfhicnejmaa
set_option linter.unusedVariables false

abbrev It := Bool × Int × ByteArray
def s40 (s : ByteArray) : ByteArray := s.extract 0 (min s.size 40)
def itemB (x : It) : List UInt8 := bif x.1 then textP (s40 x.2.2).data.toList else numP x.2.1
def putP (l : List It) : List UInt8 := l.flatMap itemB
def itemV (x : It) : Value × Value × Value := (.bool x.1, .int .i64 x.2.1, .string x.2.2)
def Okay (x : It) : Prop := -9223372036854775808 ≤ x.2.1 ∧ x.2.1 ≤ 9223372036854775807
theorem s40_len (s : ByteArray) : (s40 s).data.toList.length ≤ 40 := by
  have h1 : (s40 s).data.toList.length = (s40 s).size := by rw [Array.length_toList]; rfl
  have h2 : (s40 s).size ≤ 40 := by unfold s40; rw [ByteArray.size_extract]; omega
  omega
theorem itemB_pos (x : It) : 1 ≤ (itemB x).length := by
  obtain ⟨b, n, s⟩ := x
  cases b
  · exact vint_pos (zz n)
  · show 1 ≤ (textP _).length
    unfold textP numP
    rw [List.length_append]
    have := vint_pos (zz ((s40 s).data.toList.length : Int))
    show 1 ≤ (vint (zz ((s40 s).data.toList.length : Int))).length + (s40 s).data.toList.length
    omega
theorem itemB_len (x : It) (h : Okay x) : (itemB x).length ≤ 50 := by
  obtain ⟨b, n, s⟩ := x
  cases b
  · exact Nat.le_trans (numP_10 n h.1 h.2) (by omega)
  · show (textP _).length ≤ 50
    unfold textP
    rw [List.length_append]
    have h1 := s40_len s
    have := numP_10 ((s40 s).data.toList.length : Int) (by omega) (by omega)
    show (numP ((s40 s).data.toList.length : Int)).length + (s40 s).data.toList.length ≤ 50
    omega
theorem putP_cons (x : It) (l : List It) : putP (x :: l) = itemB x ++ putP l := by unfold putP; rw [List.flatMap_cons]
theorem putP_append (a b : List It) : putP (a ++ b) = putP a ++ putP b := by unfold putP; rw [List.flatMap_append]
theorem putP_step (l : List It) (j : Nat) (h : j < l.length) : putP (l.take (j + 1)) = putP (l.take j) ++ itemB l[j] := by
  rw [List.take_add_one, putP_append, List.getElem?_eq_getElem h]
  congr 1
  show putP [l[j]] = _
  rw [putP_cons]; exact List.append_nil _
theorem putP_split (l : List It) (j : Nat) (h : j < l.length) : putP l = putP (l.take j) ++ (itemB l[j] ++ putP (l.drop (j + 1))) := by
  conv => lhs; rw [← List.take_append_drop j l, putP_append, List.drop_eq_getElem_cons h, putP_cons]
theorem putP_len : ∀ (l : List It), (∀ x ∈ l, Okay x) → l.length ≤ (putP l).length ∧ (putP l).length ≤ 50 * l.length
  | [], _ => ⟨Nat.le_refl _, Nat.le_refl _⟩
  | x :: l, h => by
    obtain ⟨h1, h2⟩ := putP_len l (fun y hy => h y (List.mem_cons_of_mem _ hy))
    have h3 := itemB_pos x
    have h4 := itemB_len x (h x (by simp))
    rw [putP_cons, List.length_append, List.length_cons]
    constructor <;> omega
theorem putP_take_le (l : List It) (j : Nat) : (putP (l.take j)).length ≤ (putP l).length := by
  conv => rhs; rw [← List.take_append_drop j l, putP_append, List.length_append]
  omega
/-! Read back. -/
theorem num_at (pre r : List UInt8) (n : Int) (h1 : -9223372036854775808 ≤ n) (h2 : n ≤ 9223372036854775807) :
    inAt (pre ++ (numP n ++ r)) pre.length false (-9223372036854775808) 9223372036854775807 = (n, pre.length + (numP n).length, false) := inAt_in (numAt_at pre r n h1 h2) h1 h2
theorem num_cut (pre r : List UInt8) (n : Int) (k : Nat) (hk : k < (numP n).length) :
    inAt ((pre ++ (numP n ++ r)).take (pre.length + k)) pre.length false (-9223372036854775808) 9223372036854775807 = (0, pre.length, true) := inAt_none _ _ (numAt_cut pre r n k hk)
theorem textP_assoc (s r : List UInt8) : textP s ++ r = numP s.length ++ (s ++ r) := by unfold textP; rw [List.append_assoc]
theorem textP_length (s : List UInt8) : (textP s).length = (numP s.length).length + s.length := by unfold textP; rw [List.length_append]
theorem text_at (pre r s : List UInt8) (hs : s.length ≤ 40) : textAt (pre ++ (textP s ++ r)) pre.length false 40 = (s, pre.length + (textP s).length, false) := by
  rw [textP_assoc, textP_length]
  have hn := numAt_at pre (s ++ r) (s.length : Int) (by omega) (by omega)
  have hi := inAt_in hn (lo := 0) (hi := 40) (by omega) (by omega)
  rw [textAt_in hi (by simp only [List.length_append]; omega), Int.toNat_natCast]
  congr 1
  · rw [← List.append_assoc, ← List.length_append, List.drop_left, List.take_left]
  · rw [Nat.add_assoc]
theorem text_cut (pre r s : List UInt8) (hs : s.length ≤ 40) (k : Nat) (hk : k < (textP s).length) : textAt ((pre ++ (textP s ++ r)).take (pre.length + k)) pre.length false 40 = ([], pre.length, true) := by
  rw [textP_assoc]
  rw [textP_length] at hk
  rcases Nat.lt_or_ge k (numP (s.length : Int)).length with h | h
  · exact textAt_bad (inAt_none 0 40 (numAt_cut pre (s ++ r) (s.length : Int) k h))
  · have e : (pre ++ (numP (s.length : Int) ++ (s ++ r))).take (pre.length + k) = pre ++ (numP (s.length : Int) ++ (s ++ r).take (k - (numP (s.length : Int)).length)) := by
      rw [List.take_length_add_append]
      congr 1
      rw [List.take_append, List.take_of_length_le h]
    rw [e]
    have hn := numAt_at pre ((s ++ r).take (k - (numP (s.length : Int)).length)) (s.length : Int) (by omega) (by omega)
    have hi := inAt_in hn (lo := 0) (hi := 40) (by omega) (by omega)
    refine textAt_short hi ?_
    have h3 : ((s ++ r).take (k - (numP (s.length : Int)).length)).length ≤ k - (numP (s.length : Int)).length := List.length_take_le _ _
    simp only [List.length_append]
    omega
/-- Where the reader of the cut bytes stands when p bytes were read of the whole. -/
def QRel (k p at_ : Nat) (bad : Bool) : Prop := (p ≤ k → bad = false ∧ at_ = p) ∧ (k < p → bad = true)
theorem q_zero (k : Nat) : QRel k 0 0 false := ⟨fun _ => ⟨rfl, rfl⟩, fun h => by omega⟩
theorem cut_in (pre X r : List UInt8) (k : Nat) (h : pre.length + X.length ≤ k) : (pre ++ (X ++ r)).take k = pre ++ (X ++ r.take (k - pre.length - X.length)) := by
  rw [List.take_append, List.take_of_length_le (by omega), List.take_append, List.take_of_length_le (l := X) (by omega)]
theorem q_num (pre r : List UInt8) (n : Int) (h1 : -9223372036854775808 ≤ n) (h2 : n ≤ 9223372036854775807) (k at_ : Nat) (bad : Bool) (h : QRel k pre.length at_ bad) :
    QRel k (pre.length + (numP n).length) (inAt ((pre ++ (numP n ++ r)).take k) at_ bad (-9223372036854775808) 9223372036854775807).2.1 (inAt ((pre ++ (numP n ++ r)).take k) at_ bad (-9223372036854775808) 9223372036854775807).2.2 := by
  rcases Nat.lt_or_ge k pre.length with hk | hk
  · obtain rfl := h.2 hk
    rw [inAt_bad]
    exact ⟨fun h => by omega, fun _ => rfl⟩
  · obtain ⟨rfl, rfl⟩ := h.1 hk
    rcases Nat.lt_or_ge k (pre.length + (numP n).length) with hk2 | hk2
    · have hc := num_cut pre r n (k - pre.length) (by omega)
      rw [show pre.length + (k - pre.length) = k by omega] at hc
      rw [hc]
      exact ⟨fun h => by omega, fun _ => rfl⟩
    · rw [cut_in _ _ _ _ hk2, num_at _ _ _ h1 h2]
      exact ⟨fun _ => ⟨rfl, rfl⟩, fun h => by omega⟩
theorem q_text (pre r s : List UInt8) (hs : s.length ≤ 40) (k at_ : Nat) (bad : Bool) (h : QRel k pre.length at_ bad) :
    QRel k (pre.length + (textP s).length) (textAt ((pre ++ (textP s ++ r)).take k) at_ bad 40).2.1 (textAt ((pre ++ (textP s ++ r)).take k) at_ bad 40).2.2 := by
  rcases Nat.lt_or_ge k pre.length with hk | hk
  · obtain rfl := h.2 hk
    rw [textAt_bad (inAt_bad _ at_ 0 40)]
    exact ⟨fun h => by omega, fun _ => rfl⟩
  · obtain ⟨rfl, rfl⟩ := h.1 hk
    rcases Nat.lt_or_ge k (pre.length + (textP s).length) with hk2 | hk2
    · have hc := text_cut pre r s hs (k - pre.length) (by omega)
      rw [show pre.length + (k - pre.length) = k by omega] at hc
      rw [hc]
      exact ⟨fun h => by omega, fun _ => rfl⟩
    · rw [cut_in _ _ _ _ hk2, text_at _ _ _ hs]
      exact ⟨fun _ => ⟨rfl, rfl⟩, fun h => by omega⟩
theorem text_self (s : ByteArray) : str s.data.toList = .string s := by unfold str text; rw [Array.toArray_toList]
/-- Plain items, of what an argument held. -/
theorem items_of : ∀ (l : List (Value × Value × Value)), (∀ x ∈ l, ∃ (b : Bool) (n : Int) (s : ByteArray), x = (.bool b, .int .i64 n, .string s) ∧ -9223372036854775808 ≤ n ∧ n ≤ 9223372036854775807 ∧ s.size ≤ maxLen) →
    ∃ its : List It, l = its.map itemV ∧ ∀ x ∈ its, Okay x
  | [], _ => ⟨[], rfl, by simp⟩
  | x :: l, h => by
    obtain ⟨b, n, s, rfl, h1, h2, _⟩ := h x (by simp)
    obtain ⟨its, rfl, hi⟩ := items_of l (fun y hy => h y (List.mem_cons_of_mem _ hy))
    exact ⟨(b, n, s) :: its, rfl, fun y hy => by
      rcases List.mem_cons.1 hy with rfl | hy
      · exact ⟨h1, h2⟩
      · exact hi y hy⟩
end Go.Proofs.Ytinlnfhicnejmaa
