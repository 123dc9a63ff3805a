/-
  CONTRACTS OF bailiffref1.Combine AND combine.Right: the document's own answer is what All says.
-/
import Derived.Test.YtlkikaeboeaadaaCombSureW
namespace Go.Proofs.Ytlkikaeboeaadaa
open Go.RowKit
set_option linter.unusedVariables false

theorem first_take (l : List (Nat × Nat)) (k : Nat) (hk : k < l.length) : firstP (l.take (k + 1)) = bif firstP (l.take k) == (0, 0) then l[k] else firstP (l.take k) := by
  rw [← fold3_first, take_fold _ _ _ _ hk, fold3_first]; rfl
theorem only_alt (l : List (Nat × Nat)) : onlyP l = bif (!l.all sureP || decide (1 < (F l).length)) then (2, 2) else firstP l := by
  rw [only_g, ← sure_F, ← first_F]
  have hF : ∀ m ∈ F l, appliesP m = true := fun m hm => (F_mem hm).2
  generalize F l = f at hF ⊢
  match f, hF with
  | [], _ => rfl
  | [x], h =>
    have hx := h x (List.mem_cons_self ..)
    unfold firstP
    rw [List.find?_cons_of_pos hx]
    show (bif sureP x then x else (2, 2)) = (bif (!(sureP x && true) || false) then (2, 2) else x)
    cases sureP x <;> rfl
  | x :: y :: r, _ =>
    rw [show decide (1 < (x :: y :: r).length) = true from decide_eq_true (by simp), Bool.or_true]; rfl
theorem cright_any (alg : Int) (w : World) : Calls Try.prog 37 #[.int .i64 alg] w fun e w' => e = .returned (.bool (decide (1 ≤ alg) && decide (alg ≤ 6))) ∧ w = w' := by
  by_cases h1 : 1 ≤ alg <;> by_cases h2 : alg ≤ 6
  all_goals
    first | rw [decide_eq_true h1] | rw [decide_eq_false h1]
    first | rw [decide_eq_true h2] | rw [decide_eq_false h2]
    go_enter Try.func37, Try.ntmps37
    go_wp2
    go_ret
    exact ⟨rfl, rfl⟩
set_option maxHeartbeats 16000000 in
theorem refc_any (alg : Int) (a : Option Addr) (c n : Nat) (l : List (Nat × Nat)) (hn : l.length = n) (w : World) (B : Nat) (hc : n ≤ maxLen) (hq : QPs l) (hs : Sl w B a (vm l)) :
    Calls Try.prog 36 #[.int .i64 alg, .slice a n c] w fun e w' => e = .returned (mkE (allP alg l)) ∧ w = w' := by
  subst hn
  have HQ := hide hq
  unfold maxLen at hc
  clear hq
  go_enter Try.func36, Try.ntmps36
  go_wp2
  go_loop [6, 7, 8, 9, 14] (fun v f m u i => ∃ k : Nat, k ≤ l.length ∧ i = .int .i64 k ∧ (l.take k).all rightP = true ∧ v = .complex .f64 (qb (joinsP (l.take k)).1) (qb (joinsP (l.take k)).2) ∧
    f = .complex .f64 (qb (firstP (l.take k)).1) (qb (firstP (l.take k)).2) ∧ m = .int .i64 ((F (l.take k)).length : Nat) ∧ u = .bool (!(l.take k).all sureP)) (fun _ _ _ _ i => l.length - (intOf i).toNat)
  case atStart => exact ⟨0, Nat.zero_le _, rfl, by simp, rfl, rfl, rfl, rfl⟩
  case round =>
    obtain ⟨k, hk, rfl, hall, rfl, rfl, rfl, rfl⟩ := hrel
    by_cases hlt : k < l.length
    · obtain ⟨b, off, rfl, _, hcell⟩ := hs.mark hlt
      have hA := hide (refRight_any l[k] (HQ.out.at hlt) w)
      unfold mk at hA
      have hJq := joinsP_q (l := l.take k) (fun x hx => HQ.out x (List.mem_of_mem_take hx))
      have hfq := firstP_q (l := l.take k) (fun x hx => HQ.out x (List.mem_of_mem_take hx))
      have hst : Hid (joinsP (l.take (k + 1)) = joinP (joinsP (l.take k)) l[k]) := hide (take_fold joinP (0, 0) l k hlt)
      have hB : Hid (Calls Try.prog 28 #[.complex .f64 (qb (joinsP (l.take k)).1) (qb (joinsP (l.take k)).2), .complex .f64 (qb l[k].1) (qb l[k].2)] w fun e w' => e = .returned (.complex .f64 (qb (joinsP (l.take (k + 1))).1) (qb (joinsP (l.take (k + 1))).2)) ∧ w = w') := by
        rw [hst.out]; exact refJoin_any _ _ hJq (HQ.out.at hlt) w
      have h1 := hide (fun h => take_all hall hlt h)
      have h2 : Hid (rightP l[k] = false → allP alg l = ((0, 0), 1)) := fun h => allP_bad (not_all hlt h)
      have hU := all_take sureP l k hlt
      have hF := F_take l k hlt
      have hFl : (F (l.take k)).length ≤ k := Nat.le_trans (List.length_filter_le _ _) (List.length_take_le _ _)
      have hft := first_take l k hlt
      have hqm := HQ.out.at hlt
      have e0 : ((FloatKind.f64.format.order (qb l[k].1) 0 == some .eq) && (FloatKind.f64.format.order (qb l[k].2) 0 == some .eq)) = _ := mark_eq l[k].1 l[k].2 0 0 hqm (by decide) (by decide)
      have e1 : ((FloatKind.f64.format.order (qb l[k].1) 4607182418800017408 == some .eq) && (FloatKind.f64.format.order (qb l[k].2) 0 == some .eq)) = _ := mark_eq l[k].1 l[k].2 4 0 hqm (by decide) (by decide)
      have e2 : ((FloatKind.f64.format.order (qb l[k].1) 0 == some .eq) && (FloatKind.f64.format.order (qb l[k].2) 4607182418800017408 == some .eq)) = _ := mark_eq l[k].1 l[k].2 0 4 hqm (by decide) (by decide)
      have ef : ((FloatKind.f64.format.order (qb (firstP (l.take k)).1) 0 == some .eq) && (FloatKind.f64.format.order (qb (firstP (l.take k)).2) 0 == some .eq)) = _ := mark_eq (firstP (l.take k)).1 (firstP (l.take k)).2 0 0 hfq (by decide) (by decide)
      have hx : (((l[k] == ((0, 0) : Nat × Nat)) && (l[k] == ((4, 0) : Nat × Nat)) || (l[k] == ((0, 0) : Nat × Nat)) && (l[k] == ((0, 4) : Nat × Nat)) || (l[k] == ((4, 0) : Nat × Nat)) && (l[k] == ((0, 4) : Nat × Nat)))) = false := by
        by_cases h0 : l[k] = (0, 0)
        · rw [h0]; decide
        · by_cases h1 : l[k] = (4, 0)
          · rw [h1]; decide
          · rw [beq_eq_false_iff_ne.2 h0, beq_eq_false_iff_ne.2 h1]; rfl
      rw [sure_e l[k] _ _ _ rfl rfl rfl] at hU
      change _ = (firstP (l.take k) == ((0, 0) : Nat × Nat)) at ef
      change _ = (l[k] == ((0, 0) : Nat × Nat)) at e0
      change _ = (l[k] == ((4, 0) : Nat × Nat)) at e1
      change _ = (l[k] == ((0, 4) : Nat × Nat)) at e2
      generalize (l.take k).all sureP = U at hU ⊢
      generalize (F (l.take k)).length = n at hF hFl ⊢
      generalize (firstP (l.take k) == ((0, 0) : Nat × Nat)) = FZ at hft ef
      generalize (l[k] == ((0, 0) : Nat × Nat)) = E0 at hU hF e0 hx
      generalize (l[k] == ((4, 0) : Nat × Nat)) = E1 at hU e1 hx
      generalize (l[k] == ((0, 4) : Nat × Nat)) = E2 at hU e2 hx
      have HU := hide hU
      have HF := hide hF
      have HFT := hide hft
      clear hs hall hJq hfq hst hU hF hft hqm
      generalize joinsP (l.take k) = J at hB ⊢
      generalize hJ' : joinsP (l.take (k + 1)) = J' at hB ⊢
      have HJ := hide hJ'
      clear hJ'
      generalize firstP (l.take k) = f at HFT ef ⊢
      rcases hb : rightP l[k] with _ | _
      · rw [hb] at hA h1 h2
        have H2 := hide (h2.out rfl)
        clear h1 h2 hb hB hx e0 e1 e2 ef
        generalize qb l[k].1 = x at hcell hA
        generalize qb l[k].2 = y at hcell hA
        go_wp2_with fail
        refine hA.out.mono ?_
        rintro e w' ⟨rfl, rfl⟩
        go_wp2
        go_ret2
        exact ⟨by rw [H2.out]; rfl, rfl⟩
      · rw [hb] at hA h1 h2
        have H1 := hide (h1.out rfl)
        clear h1 h2 hb
        generalize hvx : qb l[k].1 = x at hcell hA e0 e1 e2 hB
        generalize hvy : qb l[k].2 = y at hcell hA e0 e1 e2 hB
        have HVX := hide hvx
        have HVY := hide hvy
        clear hvx hvy
        generalize hfx : qb f.1 = fx at ef ⊢
        generalize hfy : qb f.2 = fy at ef ⊢
        have HFX := hide hfx
        have HFY := hide hfy
        clear hfx hfy
        rcases E0 with _ | _ <;> rcases E1 with _ | _ <;> rcases E2 with _ | _ <;> (try (exfalso; exact absurd hx (by decide))) <;> clear hx <;> rcases U with _ | _ <;> rcases FZ with _ | _
        all_goals
          go_wp2_with fail
          refine hA.out.mono ?_
          rintro e w' ⟨rfl, rfl⟩
          go_wp2_with fail
          refine hB.out.mono ?_
          rintro e w' ⟨rfl, rfl⟩
          go_wp2
          go_round
          case rel => exact ⟨k + 1, by omega, by go_num, H1.out, by rw [HJ.out], by rw [HFT.out]; first | (rw [← HVX.out, ← HVY.out]; rfl) | (rw [← HFX.out, ← HFY.out]; rfl), by rw [HF.out]; simp, by rw [HU.out]; rfl⟩
          case measure => simp [intOf]; omega
    · obtain rfl : k = l.length := by omega
      rw [List.take_length] at hall ⊢
      have HALL := hide hall
      have hJq := hide (joinsP_q HQ.out)
      have hjh := hide (join_has (l := l) (fun m hm => List.all_eq_true.1 HALL.out m hm))
      have hFl : (F l).length ≤ l.length := List.length_filter_le _ _
      clear hall hk hlt hs
      by_cases hin : 1 ≤ alg ∧ alg ≤ 6
      · obtain ⟨K, rfl⟩ : ∃ K : Nat, alg = (K : Int) := ⟨alg.toNat, by omega⟩
        obtain ⟨hlo, hhi⟩ := hin
        have HR := hide (allP_yes (l := l) K (by omega) (by omega) HALL.out)
        obtain rfl | rfl | rfl | rfl | rfl | rfl : K = 1 ∨ K = 2 ∨ K = 3 ∨ K = 4 ∨ K = 5 ∨ K = 6 := by omega
        · have HR : Hid (allP 1 l = (overP (joinsP l), 0)) := HR
          have h1 := hide (refOver_any (joinsP l) hJq.out w)
          unfold mk at h1
          clear HQ HALL hJq hjh
          generalize l.all sureP = U
          generalize (F l).length = n at *
          generalize qb (firstP l).1 = f1
          generalize qb (firstP l).2 = f2
          generalize qb (joinsP l).1 = j1 at h1 ⊢
          generalize qb (joinsP l).2 = j2 at h1 ⊢
          go_wp2_with fail
          refine h1.out.mono ?_
          rintro e w' ⟨rfl, rfl⟩
          go_wp2
          go_ret2
          exact ⟨Eq.trans rfl (congrArg (fun r => Ending.returned (mkE r)) HR.out.symm), rfl⟩
        · have HR : Hid (allP 2 l = (swapP (overP (swapP (joinsP l))), 0)) := HR
          have h1 := hide (refTurn_any (joinsP l) w)
          have h2 := hide (refOver_any (swapP (joinsP l)) hJq.out.swap w)
          have h3 := hide (refTurn_any (overP (swapP (joinsP l))) w)
          unfold mk at h1 h2 h3
          clear HQ HALL hJq hjh
          generalize l.all sureP = U
          generalize (F l).length = n at *
          generalize qb (firstP l).1 = f1
          generalize qb (firstP l).2 = f2
          generalize qb (joinsP l).1 = j1 at h1 ⊢
          generalize qb (joinsP l).2 = j2 at h1 ⊢
          generalize qb (swapP (joinsP l)).1 = t1 at h1 h2
          generalize qb (swapP (joinsP l)).2 = t2 at h1 h2
          generalize qb (overP (swapP (joinsP l))).1 = o1 at h2 h3
          generalize qb (overP (swapP (joinsP l))).2 = o2 at h2 h3
          go_wp2_with fail
          refine h1.out.mono ?_
          rintro e w' ⟨rfl, rfl⟩
          go_wp2_with fail
          refine h2.out.mono ?_
          rintro e w' ⟨rfl, rfl⟩
          go_wp2_with fail
          refine h3.out.mono ?_
          rintro e w' ⟨rfl, rfl⟩
          go_wp2
          go_ret2
          exact ⟨Eq.trans rfl (congrArg (fun r => Ending.returned (mkE r)) HR.out.symm), rfl⟩
        · have HR : Hid (allP 3 l = (firstP l, 0)) := HR
          clear HQ HALL hJq hjh
          generalize l.all sureP = U
          generalize (F l).length = n at *
          generalize qb (joinsP l).1 = j1
          generalize qb (joinsP l).2 = j2
          go_wp2
          go_ret2
          exact ⟨Eq.trans rfl (congrArg (fun r => Ending.returned (mkE r)) HR.out.symm), rfl⟩
        · have ha := only_alt l
          have HR : Hid (allP 4 l = (onlyP l, 0)) := HR
          rw [ha] at HR
          clear ha HQ HALL hJq hjh
          generalize l.all sureP = U at *
          generalize (F l).length = n at *
          generalize qb (joinsP l).1 = j1
          generalize qb (joinsP l).2 = j2
          generalize firstP l = f at *
          rcases U with _ | _
          · go_wp2
            go_ret2
            exact ⟨Eq.trans rfl (congrArg (fun r => Ending.returned (mkE r)) HR.out.symm), rfl⟩
          · by_cases hn : 1 < n
            · have hd : decide ((1 : Int) < (n : Int)) = true := decide_eq_true (by omega)
              rw [decide_eq_true hn] at HR
              go_wp2
              go_ret2
              exact ⟨Eq.trans rfl (congrArg (fun r => Ending.returned (mkE r)) HR.out.symm), rfl⟩
            · have hd : decide ((1 : Int) < (n : Int)) = false := decide_eq_false (by omega)
              rw [decide_eq_false hn] at HR
              go_wp2
              go_ret2
              exact ⟨Eq.trans rfl (congrArg (fun r => Ending.returned (mkE r)) HR.out.symm), rfl⟩
        · have hc : (FloatKind.f64.format.order (qb (joinsP l).1) 4607182418800017408 == some .eq) = _ := q_eq (joinsP l).1 4 hJq.out.1 (by decide)
          rw [hjh.out.1] at hc
          have HR : Hid (allP 5 l = (unlessP l (0, 4) (4, 0), 0)) := HR
          unfold unlessP at HR
          clear HQ HALL hJq hjh
          generalize hasP (4, 0) l = P at *
          generalize l.all sureP = U
          generalize (F l).length = n at *
          generalize qb (firstP l).1 = f1
          generalize qb (firstP l).2 = f2
          generalize qb (joinsP l).1 = j1 at *
          generalize qb (joinsP l).2 = j2 at *
          rcases P with _ | _
          all_goals
            go_wp2
            go_ret2
            exact ⟨Eq.trans rfl (congrArg (fun r => Ending.returned (mkE r)) HR.out.symm), rfl⟩
        · have hc : (FloatKind.f64.format.order (qb (joinsP l).2) 4607182418800017408 == some .eq) = _ := q_eq (joinsP l).2 4 hJq.out.2 (by decide)
          rw [hjh.out.2] at hc
          have HR : Hid (allP 6 l = (unlessP l (4, 0) (0, 4), 0)) := HR
          unfold unlessP at HR
          clear HQ HALL hJq hjh
          generalize hasP (0, 4) l = P at *
          generalize l.all sureP = U
          generalize (F l).length = n at *
          generalize qb (firstP l).1 = f1
          generalize qb (firstP l).2 = f2
          generalize qb (joinsP l).1 = j1 at *
          generalize qb (joinsP l).2 = j2 at *
          rcases P with _ | _
          all_goals
            go_wp2
            go_ret2
            exact ⟨Eq.trans rfl (congrArg (fun r => Ending.returned (mkE r)) HR.out.symm), rfl⟩
      · have HR := hide (allP_no (l := l) (alg := alg) (by omega))
        have e1 : (alg == 1) = false := by simp; omega
        have e2 : (alg == 2) = false := by simp; omega
        have e3 : (alg == 3) = false := by simp; omega
        have e4 : (alg == 4) = false := by simp; omega
        have e5 : (alg == 5) = false := by simp; omega
        have e6 : (alg == 6) = false := by simp; omega
        clear hin HQ HALL hJq hjh
        generalize l.all sureP = U
        generalize (F l).length = n at *
        go_wp2
        go_ret2
        exact ⟨Eq.trans rfl (congrArg (fun r => Ending.returned (mkE r)) HR.out.symm), rfl⟩
end Go.Proofs.Ytlkikaeboeaadaa
