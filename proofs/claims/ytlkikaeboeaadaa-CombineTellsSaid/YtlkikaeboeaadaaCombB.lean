/-
  CONTRACTS OF slices.IndexFunc, Index, Contains at marks, of combine.first, only, unless, All: nothing turns.
-/
import Derived.Test.YtlkikaeboeaadaaCombP
namespace Go.Proofs.Ytlkikaeboeaadaa
open Go.RowKit
set_option linter.unusedVariables false

set_option maxHeartbeats 400000 in
theorem indexf_any (a : Option Addr) (c n : Nat) (l : List (Nat × Nat)) (hn : l.length = n) (w : World) (B : Nat) (hc : n ≤ maxLen) (hq : QPs l) (hs : Sl w B a (vm l)) :
    Calls Try.prog 46 #[.slice a n c, .func (.func 47) #[] #[]] w fun e w' => e = .returned (.int .i64 (idxP appliesP l)) ∧ w = w' := by
  subst hn
  unfold maxLen at hc
  have HQ := hide hq
  clear hq
  go_enter Try.func46, Try.ntmps46
  go_wp2
  go_loop [8] (fun i => ∃ k : Nat, k ≤ l.length ∧ i = .int .i64 k ∧ noneTo appliesP l k) (fun i => l.length - (intOf i).toNat)
  case atStart => exact ⟨0, Nat.zero_le _, rfl, noneTo_zero _ _⟩
  case round =>
    obtain ⟨k, hk, rfl, hno⟩ := hrel
    by_cases hlt : k < l.length
    · obtain ⟨b, off, rfl, _, hcell⟩ := hs.mark hlt
      have hA := hide (applies_any l[k] (HQ.out.at hlt) w)
      have h0 := hide (fun h => idx_hit hno hlt h)
      have h1 := hide (fun h => noneTo_succ hno hlt h)
      clear hs hno
      generalize qb l[k].1 = x at hcell hA
      generalize qb l[k].2 = y at hcell hA
      rcases hb : appliesP l[k] with _ | _
      · rw [hb] at hA h0 h1
        have H1 := hide (h1.out rfl)
        clear h0 h1 hb
        go_wp2_with fail
        refine hA.out.mono ?_
        rintro e w' ⟨rfl, rfl⟩
        go_wp2
        go_round
        case rel => exact ⟨k + 1, by omega, by go_num, H1.out⟩
        case measure => simp [intOf]; omega
      · rw [hb] at hA h0 h1
        have H0 := hide (h0.out rfl)
        clear h0 h1 hb
        go_wp2_with fail
        refine hA.out.mono ?_
        rintro e w' ⟨rfl, rfl⟩
        go_wp2
        go_ret
        exact ⟨by rw [H0.out]; rfl, rfl⟩
    · obtain rfl : k = l.length := by omega
      have H0 := hide (idx_miss hno)
      clear hno
      go_wp2
      go_ret
      exact ⟨by rw [H0.out]; rfl, rfl⟩

theorem pair_eq (a b : Nat × Nat) : (((a.1, a.2) : Nat × Nat) == (b.1, b.2)) = (a == b) := rfl
set_option maxHeartbeats 400000 in
theorem index_any (a : Option Addr) (c n : Nat) (l : List (Nat × Nat)) (hn : l.length = n) (m : Nat × Nat) (w : World) (B : Nat) (hc : n ≤ maxLen) (hm : QP m) (hq : QPs l) (hs : Sl w B a (vm l)) :
    Calls Try.prog 50 #[.slice a n c, .complex .f64 (qb m.1) (qb m.2)] w fun e w' => e = .returned (.int .i64 (idxP (m == ·) l)) ∧ w = w' := by
  subst hn
  unfold maxLen at hc
  have HQ := hide (fun (k : Nat) (h : k < l.length) => (mark_eq m.1 m.2 l[k].1 l[k].2 hm (hq.at h).1 (hq.at h).2).trans (pair_eq m l[k]))
  clear hq
  generalize hu : qb m.1 = u at HQ ⊢
  generalize hv : qb m.2 = v at HQ ⊢
  clear hu hv hm
  go_enter Try.func50, Try.ntmps50
  go_wp2
  go_loop [8] (fun i => ∃ k : Nat, k ≤ l.length ∧ i = .int .i64 k ∧ noneTo (m == ·) l k) (fun i => l.length - (intOf i).toNat)
  case atStart => exact ⟨0, Nat.zero_le _, rfl, noneTo_zero _ _⟩
  case round =>
    obtain ⟨k, hk, rfl, hno⟩ := hrel
    by_cases hlt : k < l.length
    · obtain ⟨b, off, rfl, _, hcell⟩ := hs.mark hlt
      have he := HQ.out k hlt
      have h0 := hide (fun h => idx_hit hno hlt h)
      have h1 := hide (fun h => noneTo_succ hno hlt h)
      clear hs hno
      generalize qb l[k].1 = x at hcell he
      generalize qb l[k].2 = y at hcell he
      rcases hb : (m == l[k]) with _ | _
      · rw [hb] at he h0 h1
        have H1 := hide (h1.out rfl)
        clear h0 h1 hb
        go_wp2
        go_round
        case rel => exact ⟨k + 1, by omega, by go_num, H1.out⟩
        case measure => simp [intOf]; omega
      · rw [hb] at he h0 h1
        have H0 := hide (h0.out rfl)
        clear h0 h1 hb
        go_wp2
        go_ret
        exact ⟨by rw [H0.out]; rfl, rfl⟩
    · obtain rfl : k = l.length := by omega
      have H0 := hide (idx_miss hno)
      clear hno
      go_wp2
      go_ret
      exact ⟨by rw [H0.out]; rfl, rfl⟩
theorem has_of_idx (m : Nat × Nat) (l : List (Nat × Nat)) : (∃ k : Nat, idxP (m == ·) l = k ∧ hasP m l = true) ∨ (idxP (m == ·) l = -1 ∧ hasP m l = false) := by
  rcases idx_cases (m == ·) l with ⟨k, hk, h1, h2, _⟩ | ⟨h1, h2⟩
  · exact .inl ⟨k, h1, List.any_eq_true.2 ⟨l[k], List.getElem_mem hk, h2⟩⟩
  · exact .inr ⟨h1, List.any_eq_false.2 fun x hx => by rw [h2 x hx]; decide⟩
theorem contains_any (a : Option Addr) (c n : Nat) (l : List (Nat × Nat)) (hn : l.length = n) (m : Nat × Nat) (w : World) (B : Nat) (hc : n ≤ maxLen) (hm : QP m) (hq : QPs l) (hs : Sl w B a (vm l)) :
    Calls Try.prog 49 #[.slice a n c, .complex .f64 (qb m.1) (qb m.2)] w fun e w' => e = .returned (.bool (hasP m l)) ∧ w = w' := by
  have h := index_any a c n l hn m w B hc hm hq hs
  clear hm
  rcases has_of_idx m l with ⟨k, h1, h2⟩ | ⟨h1, h2⟩
  all_goals
    rw [h1] at h
    rw [h2]
    have H := hide h
    clear h h1 h2 hs hq hn hc
    generalize qb m.1 = u at H ⊢
    generalize qb m.2 = v at H ⊢
    go_enter Try.func49, Try.ntmps49
    go_wp2_with fail
    refine H.out.mono ?_
    rintro e w' ⟨rfl, rfl⟩
    go_wp2
    go_ret
    exact ⟨rfl, rfl⟩
theorem unless_any (a : Option Addr) (c n : Nat) (l : List (Nat × Nat)) (hn : l.length = n) (m o : Nat × Nat) (w : World) (B : Nat) (hc : n ≤ maxLen) (hm : QP m) (ho : QP o) (hq : QPs l) (hs : Sl w B a (vm l)) :
    Calls Try.prog 44 #[.slice a n c, .complex .f64 (qb m.1) (qb m.2), .complex .f64 (qb o.1) (qb o.2)] w fun e w' => e = .returned (.complex .f64 (qb (unlessP l m o).1) (qb (unlessP l m o).2)) ∧ w = w' := by
  have H := hide (contains_any a c n l hn o w B hc ho hq hs)
  unfold unlessP
  clear hs hq hc hm ho
  rcases hh : hasP o l with _ | _
  all_goals
    rw [hh] at H
    simp only [cond_true, cond_false]
    clear hh hn
    generalize qb m.1 = u at H ⊢
    generalize qb m.2 = v at H ⊢
    generalize qb o.1 = x at H ⊢
    generalize qb o.2 = y at H ⊢
    go_enter Try.func44, Try.ntmps44
    go_wp2_with fail
    refine H.out.mono ?_
    rintro e w' ⟨rfl, rfl⟩
    go_wp2
    go_ret
    exact ⟨rfl, rfl⟩
theorem first_of_idx (l : List (Nat × Nat)) : (∃ k, ∃ h : k < l.length, idxP appliesP l = k ∧ firstP l = l[k]) ∨ (idxP appliesP l = -1 ∧ firstP l = (0, 0)) := by
  unfold firstP
  rcases idx_cases appliesP l with ⟨k, hk, h1, h2, h3⟩ | ⟨h1, h2⟩
  · exact .inl ⟨k, hk, h1, by rw [find_hit h3 hk h2]; rfl⟩
  · refine .inr ⟨h1, ?_⟩
    rw [List.find?_eq_none.2 fun x hx => by rw [h2 x hx]; decide]; rfl
theorem first_any (a : Option Addr) (c n : Nat) (l : List (Nat × Nat)) (hn : l.length = n) (w : World) (B : Nat) (hc : n ≤ maxLen) (hq : QPs l) (hs : Sl w B a (vm l)) :
    Calls Try.prog 42 #[.slice a n c] w fun e w' => e = .returned (.complex .f64 (qb (firstP l).1) (qb (firstP l).2)) ∧ w = w' := by
  have h := indexf_any a c n l hn w B hc hq hs
  subst hn
  clear hq
  unfold maxLen at hc
  rcases first_of_idx l with ⟨k, hk, h1, h2⟩ | ⟨h1, h2⟩
  · rw [h1] at h
    rw [h2]
    obtain ⟨b, off, rfl, _, hcell⟩ := hs.mark hk
    have H := hide h
    have hk1 : (0 : Int) ≤ (k : Int) := by omega
    clear h h1 h2 hs
    generalize qb l[k].1 = x at hcell ⊢
    generalize qb l[k].2 = y at hcell ⊢
    go_enter Try.func42, Try.ntmps42
    go_wp2_with fail
    refine H.out.mono ?_
    rintro e w' ⟨rfl, rfl⟩
    go_wp2
    go_ret
    exact ⟨rfl, rfl⟩
  · rw [h1] at h
    rw [h2]
    have H := hide h
    clear h h1 h2 hs
    go_enter Try.func42, Try.ntmps42
    go_wp2_with fail
    refine H.out.mono ?_
    rintro e w' ⟨rfl, rfl⟩
    go_wp2
    go_ret
    exact ⟨rfl, rfl⟩
end Go.Proofs.Ytlkikaeboeaadaa
