/-
  CONTRACTS OF combine.only AND combine.All: nothing turns.
-/
import Derived.Test.YtlkikaeboeaadaaCombB
namespace Go.Proofs.Ytlkikaeboeaadaa
open Go.RowKit
set_option linter.unusedVariables false

theorem take_all {p : Nat × Nat → Bool} {l : List (Nat × Nat)} {k : Nat} (h : (l.take k).all p = true) (hk : k < l.length) (hp : p l[k] = true) : (l.take (k + 1)).all p = true := by
  rw [List.take_succ_eq_append_getElem hk, List.all_append, h]; simp [hp]
theorem not_all {p : Nat × Nat → Bool} {l : List (Nat × Nat)} {k : Nat} (hk : k < l.length) (hp : p l[k] = false) : l.all p = false := by
  rw [List.all_eq_false]; exact ⟨l[k], List.getElem_mem hk, by rw [hp]; decide⟩
set_option maxHeartbeats 400000 in
theorem only_any (a : Option Addr) (c n : Nat) (l : List (Nat × Nat)) (hn : l.length = n) (w : World) (B : Nat) (hc : n ≤ maxLen) (hq : QPs l) (hs : Sl w B a (vm l)) :
    Calls Try.prog 43 #[.slice a n c] w fun e w' => e = .returned (.complex .f64 (qb (onlyP l).1) (qb (onlyP l).2)) ∧ w = w' := by
  subst hn
  unfold maxLen at hc
  have HQ := hide hq
  clear hq
  go_enter Try.func43, Try.ntmps43
  go_wp2
  go_loop [3, 8] (fun v i => ∃ k : Nat, k ≤ l.length ∧ i = .int .i64 k ∧ (l.take k).all sureP = true ∧ v = .complex .f64 (qb ((l.take k).foldl (stepP 4) (0, 0)).1) (qb ((l.take k).foldl (stepP 4) (0, 0)).2)) (fun _ i => l.length - (intOf i).toNat)
  case atStart => exact ⟨0, Nat.zero_le _, rfl, by simp, rfl⟩
  case round =>
    obtain ⟨k, hk, rfl, hall, rfl⟩ := hrel
    by_cases hlt : k < l.length
    · obtain ⟨b, off, rfl, _, hcell⟩ := hs.mark hlt
      have hA := hide (sure_any l[k] (HQ.out.at hlt) w)
      have hJq := foldl_q (fun _ _ => stepP_q 4) (l.take k) (0, 0) QP.zero (fun x hx => HQ.out x (List.mem_of_mem_take hx))
      have hB := hide (step_any 4 (by decide) (by decide) _ l[k] hJq (HQ.out.at hlt) w)
      have hst := hide (take_fold (stepP 4) (0, 0) l k hlt)
      have h1 := hide (fun h => take_all hall hlt h)
      have h2 : Hid (sureP l[k] = false → onlyP l = (2, 2)) := fun h => by unfold onlyP; rw [not_all hlt h]; rfl
      clear hs hall hJq
      generalize (l.take k).foldl (stepP 4) (0, 0) = J at hB hst ⊢
      rw [show (stepP 4 J l[k]) = ((l.take (k + 1)).foldl (stepP 4) (0, 0)) from hst.out.symm] at hB
      clear hst
      generalize hJ' : (l.take (k + 1)).foldl (stepP 4) (0, 0) = J' at hB ⊢
      have HJ := hide hJ'
      clear hJ'
      generalize qb l[k].1 = x at hcell hA hB
      generalize qb l[k].2 = y at hcell hA hB
      rcases hb : sureP l[k] with _ | _
      · rw [hb] at hA h1 h2
        have H2 := hide (h2.out rfl)
        clear h1 h2 hb
        go_wp2_with fail
        refine hA.out.mono ?_
        rintro e w' ⟨rfl, rfl⟩
        go_wp2
        go_ret
        exact ⟨by rw [H2.out]; rfl, rfl⟩
      · rw [hb] at hA h1 h2
        have H1 := hide (h1.out rfl)
        clear h1 h2 hb
        go_wp2_with fail
        refine hA.out.mono ?_
        rintro e w' ⟨rfl, rfl⟩
        go_wp2_with fail
        refine hB.out.mono ?_
        rintro e w' ⟨rfl, rfl⟩
        go_wp2
        go_round
        case rel => exact ⟨k + 1, by omega, by go_num, H1.out, by rw [HJ.out]⟩
        case measure => simp [intOf]; omega
    · obtain rfl : k = l.length := by omega
      rw [List.take_length] at hall ⊢
      have H2 : Hid (onlyP l = l.foldl (stepP 4) (0, 0)) := by unfold onlyP; rw [hall]; rfl
      clear hall
      generalize l.foldl (stepP 4) (0, 0) = J at H2 ⊢
      go_wp2
      go_ret
      exact ⟨by rw [H2.out]; rfl, rfl⟩

/-- What All answers. -/
def allP (alg : Int) (l : List (Nat × Nat)) : (Nat × Nat) × Int :=
  if l.all rightP = true ∧ 1 ≤ alg ∧ alg ≤ 6 then (algP alg.toNat l, 0) else ((0, 0), 1)
/-- A mark and an error. -/
def mkE (r : (Nat × Nat) × Int) : Value := .tuple #[.complex .f64 (qb r.1.1) (qb r.1.2), .int .i64 r.2]
theorem allP_bad {alg : Int} {l : List (Nat × Nat)} (h : l.all rightP = false) : allP alg l = ((0, 0), 1) := by
  unfold allP; rw [if_neg (by rw [h]; simp)]
theorem allP_no {alg : Int} {l : List (Nat × Nat)} (h : alg < 1 ∨ 6 < alg) : allP alg l = ((0, 0), 1) := by
  unfold allP; rw [if_neg (by omega)]
theorem allP_yes {l : List (Nat × Nat)} (k : Nat) (h1 : 1 ≤ k) (h6 : k ≤ 6) (h : l.all rightP = true) : allP (k : Int) l = (algP k l, 0) := by
  unfold allP; rw [if_pos ⟨h, by omega, by omega⟩]; rfl
theorem allP_q {alg : Int} {l : List (Nat × Nat)} (h : QPs l) : QP (allP alg l).1 := by
  unfold allP
  split
  · exact algP_q h
  · exact QP.zero
set_option maxHeartbeats 2000000 in
theorem all_any (alg : Int) (a : Option Addr) (c n : Nat) (l : List (Nat × Nat)) (hn : l.length = n) (w : World) (B : Nat) (hc : n ≤ maxLen) (hq : QPs l) (hs : Sl w B a (vm l)) :
    Calls Try.prog 30 #[.int .i64 alg, .slice a n c] w fun e w' => e = .returned (mkE (allP alg l)) ∧ w = w' := by
  subst hn
  have HQ := hide hq
  have HM := hide hc
  unfold maxLen at hc
  clear hq
  go_enter Try.func30, Try.ntmps30
  go_wp2
  go_loop [6, 11] (fun v i => ∃ k : Nat, k ≤ l.length ∧ i = .int .i64 k ∧ (l.take k).all rightP = true ∧ v = .complex .f64 (qb (joinsP (l.take k)).1) (qb (joinsP (l.take k)).2)) (fun _ i => l.length - (intOf i).toNat)
  case atStart => exact ⟨0, Nat.zero_le _, rfl, by simp, rfl⟩
  case round =>
    obtain ⟨k, hk, rfl, hall, rfl⟩ := hrel
    by_cases hlt : k < l.length
    · obtain ⟨b, off, rfl, _, hcell⟩ := hs.mark hlt
      have hA : Hid (Calls Try.prog 22 #[.complex .f64 (qb l[k].1) (qb l[k].2)] w fun e w' => e = .returned (.bool (rightP l[k])) ∧ w = w') := hide (rightm_any l[k] (HQ.out.at hlt) w)
      have hJq := joinsP_q (l := l.take k) (fun x hx => HQ.out x (List.mem_of_mem_take hx))
      have hst : Hid (joinsP (l.take (k + 1)) = joinP (joinsP (l.take k)) l[k]) := hide (take_fold joinP (0, 0) l k hlt)
      have hB : Hid (Calls Try.prog 17 #[.complex .f64 (qb (joinsP (l.take k)).1) (qb (joinsP (l.take k)).2), .complex .f64 (qb l[k].1) (qb l[k].2)] w fun e w' => e = .returned (.complex .f64 (qb (joinsP (l.take (k + 1))).1) (qb (joinsP (l.take (k + 1))).2)) ∧ w = w') := by
        rw [hst.out]; exact join_any _ _ hJq (HQ.out.at hlt) w
      have h1 := hide (fun h => take_all hall hlt h)
      have h2 : Hid (rightP l[k] = false → allP alg l = ((0, 0), 1)) := fun h => allP_bad (not_all hlt h)
      clear hs hall hJq hst
      generalize joinsP (l.take k) = J at hB ⊢
      generalize hJ' : joinsP (l.take (k + 1)) = J' at hB ⊢
      have HJ := hide hJ'
      clear hJ'
      generalize qb l[k].1 = x at hcell hA hB
      generalize qb l[k].2 = y at hcell hA hB
      rcases hb : rightP l[k] with _ | _
      · rw [hb] at hA h1 h2
        have H2 := hide (h2.out rfl)
        clear h1 h2 hb hB
        go_wp2_with fail
        refine hA.out.mono ?_
        rintro e w' ⟨rfl, rfl⟩
        go_wp2
        go_ret2
        exact ⟨by rw [H2.out]; rfl, rfl⟩
      · rw [hb] at hA h1 h2
        have H1 := hide (h1.out rfl)
        clear h1 h2 hb
        go_wp2_with fail
        refine hA.out.mono ?_
        rintro e w' ⟨rfl, rfl⟩
        go_wp2_with fail
        refine hB.out.mono ?_
        rintro e w' ⟨rfl, rfl⟩
        go_wp2
        go_round
        case rel => exact ⟨k + 1, by omega, by go_num, H1.out, by rw [HJ.out]⟩
        case measure => simp [intOf]; omega
    · obtain rfl : k = l.length := by omega
      rw [List.take_length] at hall ⊢
      have HALL := hide hall
      have hJq := hide (joinsP_q HQ.out)
      clear hall hk hlt
      by_cases hin : 1 ≤ alg ∧ alg ≤ 6
      · obtain ⟨K, rfl⟩ : ∃ K : Nat, alg = (K : Int) := ⟨alg.toNat, by omega⟩
        obtain ⟨hlo, hhi⟩ := hin
        have HR := hide (allP_yes (l := l) K (by omega) (by omega) HALL.out)
        obtain rfl | rfl | rfl | rfl | rfl | rfl : K = 1 ∨ K = 2 ∨ K = 3 ∨ K = 4 ∨ K = 5 ∨ K = 6 := by omega
        · have h1 := hide (over_any (joinsP l) hJq.out w)
          unfold mk at h1
          clear hs HQ HALL hJq
          generalize qb (joinsP l).1 = j1 at h1 ⊢
          generalize qb (joinsP l).2 = j2 at h1 ⊢
          go_wp2_with fail
          refine h1.out.mono ?_
          rintro e w' ⟨rfl, rfl⟩
          go_wp2
          go_ret2
          exact ⟨by rw [HR.out]; rfl, rfl⟩
        · have h1 := hide (turn_any (joinsP l) w)
          have h2 := hide (over_any (swapP (joinsP l)) hJq.out.swap w)
          have h3 := hide (turn_any (overP (swapP (joinsP l))) w)
          unfold mk at h1 h2 h3
          clear hs HQ HALL hJq
          generalize qb (joinsP l).1 = j1 at h1 ⊢
          generalize qb (joinsP l).2 = j2 at h1 ⊢
          generalize qb (swapP (joinsP l)).1 = t1 at h1 h2
          generalize qb (swapP (joinsP l)).2 = t2 at h1 h2
          generalize qb (overP (swapP (joinsP l))).1 = o1 at h2 h3
          generalize qb (overP (swapP (joinsP l))).2 = o2 at h2 h3
          go_wp2_with fail
          refine h1.out.mono ?_
          rintro e w' ⟨rfl, rfl⟩
          go_wp2_with fail
          refine h2.out.mono ?_
          rintro e w' ⟨rfl, rfl⟩
          go_wp2_with fail
          refine h3.out.mono ?_
          rintro e w' ⟨rfl, rfl⟩
          go_wp2
          go_ret2
          exact ⟨by rw [HR.out]; rfl, rfl⟩
        · have h1 := hide (first_any a c _ l rfl w B HM.out HQ.out hs)
          clear hs HQ HALL hJq
          go_wp2_with fail
          refine h1.out.mono ?_
          rintro e w' ⟨rfl, rfl⟩
          go_wp2
          go_ret2
          exact ⟨by rw [HR.out]; rfl, rfl⟩
        · have h1 := hide (only_any a c _ l rfl w B HM.out HQ.out hs)
          clear hs HQ HALL hJq
          go_wp2_with fail
          refine h1.out.mono ?_
          rintro e w' ⟨rfl, rfl⟩
          go_wp2
          go_ret2
          exact ⟨by rw [HR.out]; rfl, rfl⟩
        · have h1 : Hid (Calls Try.prog 44 #[.slice a l.length c, .complex .f64 0 4607182418800017408, .complex .f64 4607182418800017408 0] w fun e w' => e = .returned (.complex .f64 (qb (unlessP l (0, 4) (4, 0)).1) (qb (unlessP l (0, 4) (4, 0)).2)) ∧ w = w') := unless_any a c _ l rfl (0, 4) (4, 0) w B HM.out ⟨by decide, by decide⟩ ⟨by decide, by decide⟩ HQ.out hs
          clear hs HQ HALL hJq
          go_wp2_with fail
          refine h1.out.mono ?_
          rintro e w' ⟨rfl, rfl⟩
          go_wp2
          go_ret2
          exact ⟨by rw [HR.out]; rfl, rfl⟩
        · have h1 : Hid (Calls Try.prog 44 #[.slice a l.length c, .complex .f64 4607182418800017408 0, .complex .f64 0 4607182418800017408] w fun e w' => e = .returned (.complex .f64 (qb (unlessP l (4, 0) (0, 4)).1) (qb (unlessP l (4, 0) (0, 4)).2)) ∧ w = w') := unless_any a c _ l rfl (4, 0) (0, 4) w B HM.out ⟨by decide, by decide⟩ ⟨by decide, by decide⟩ HQ.out hs
          clear hs HQ HALL hJq
          go_wp2_with fail
          refine h1.out.mono ?_
          rintro e w' ⟨rfl, rfl⟩
          go_wp2
          go_ret2
          exact ⟨by rw [HR.out]; rfl, rfl⟩
      · have HR := hide (allP_no (l := l) (alg := alg) (by omega))
        have e1 : (alg == 1) = false := by simp; omega
        have e2 : (alg == 2) = false := by simp; omega
        have e3 : (alg == 3) = false := by simp; omega
        have e4 : (alg == 4) = false := by simp; omega
        have e5 : (alg == 5) = false := by simp; omega
        have e6 : (alg == 6) = false := by simp; omega
        clear hin hs HQ HALL hJq
        go_wp2
        go_ret2
        exact ⟨by rw [HR.out]; rfl, rfl⟩
end Go.Proofs.Ytlkikaeboeaadaa
