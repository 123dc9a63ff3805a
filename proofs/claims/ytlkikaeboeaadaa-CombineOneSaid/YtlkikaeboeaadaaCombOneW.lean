/-
  THE WALK OF bailifflaw5.CombineOne: it returns true; only new memory is laid.
-/
import Derived.Test.YtlkikaeboeaadaaCombRunsW
namespace Go.Proofs.Ytlkikaeboeaadaa
open Go.RowKit
set_option linter.unusedVariables false

set_option maxHeartbeats 8000000 in
theorem one_core (n m : Int) (j m1 m2 x1 x2 y1 y2 : Nat) (hj : j ≤ 5) (K4 K5 K6 E0 E1 E2 : Bool) (w : World)
    (h1 : Hid (Calls Try.prog 31 #[.int .i64 n, .int .i64 0, .int .i64 5] w fun e w' => e = .returned (.int .i64 (j : Int)) ∧ w = w'))
    (h2 : Hid (Calls Try.prog 34 #[.int .i64 m] w fun e w' => e = .returned (.complex .f64 m1 m2) ∧ w = w'))
    (h3 : Hid (∀ W : World, Calls Try.prog 30 #[.int .i64 (1 + (j : Int)), .slice (some ⟨W.heap.size, 0, none⟩) 1 1] (W.alloc (.cells #[.complex .f64 m1 m2] 23)) fun e w' => e = .returned (.tuple #[.complex .f64 x1 x2, .int .i64 0]) ∧ W.alloc (.cells #[.complex .f64 m1 m2] 23) = w'))
    (h4 : Hid (∀ W : World, Calls Try.prog 30 #[.int .i64 (1 + (j : Int)), .slice (some ⟨W.heap.size, 0, none⟩) 2 2] (W.alloc (.cells #[.complex .f64 m1 m2, .complex .f64 m1 m2] 23)) fun e w' => e = .returned (.tuple #[.complex .f64 y1 y2, .int .i64 0]) ∧ W.alloc (.cells #[.complex .f64 m1 m2, .complex .f64 m1 m2] 23) = w'))
    (k4 : ((1 + (j : Int)) == 4) = K4) (k5 : ((1 + (j : Int)) == 5) = K5) (k6 : ((1 + (j : Int)) == 6) = K6) (hk : (K4 && K5 || K4 && K6 || K5 && K6) = false)
    (e0 : ((FloatKind.f64.format.order m1 0 == some .eq) && (FloatKind.f64.format.order m2 0 == some .eq)) = E0) (e1 : ((FloatKind.f64.format.order m1 4607182418800017408 == some .eq) && (FloatKind.f64.format.order m2 0 == some .eq)) = E1) (e2 : ((FloatKind.f64.format.order m1 0 == some .eq) && (FloatKind.f64.format.order m2 4607182418800017408 == some .eq)) = E2) (he : (E0 && E1 || E0 && E2 || E1 && E2) = false)
    (hx : ((FloatKind.f64.format.order x1 (bif K4 && !(E0 || E1 || E2) then 4602678819172646912 else bif K5 && !E1 then 0 else bif K6 && !E2 then 4607182418800017408 else m1) == some .eq) && (FloatKind.f64.format.order x2 (bif K4 && !(E0 || E1 || E2) then 4602678819172646912 else bif K5 && !E1 then 4607182418800017408 else bif K6 && !E2 then 0 else m2) == some .eq)) = true)
    (hy : ((FloatKind.f64.format.order y1 (bif K4 && !E0 then 4602678819172646912 else (bif K4 && !(E0 || E1 || E2) then 4602678819172646912 else bif K5 && !E1 then 0 else bif K6 && !E2 then 4607182418800017408 else m1)) == some .eq) && (FloatKind.f64.format.order y2 (bif K4 && !E0 then 4602678819172646912 else (bif K4 && !(E0 || E1 || E2) then 4602678819172646912 else bif K5 && !E1 then 4607182418800017408 else bif K6 && !E2 then 0 else m2)) == some .eq)) = true) :
    Calls Try.prog 15 #[.int .i64 n, .int .i64 m] w fun e w' => e = .returned (.bool true) ∧ Below w.heap.size w w' := by
  rcases K4 with _ | _ <;> rcases K5 with _ | _ <;> rcases K6 with _ | _ <;> (try (exfalso; exact absurd hk (by decide))) <;> rcases E0 with _ | _ <;> rcases E1 with _ | _ <;> rcases E2 with _ | _ <;> (try (exfalso; exact absurd he (by decide))) <;> simp only [Bool.or_false, Bool.or_true, Bool.not_true, Bool.not_false, Bool.and_true, Bool.and_false, cond_true, cond_false] at hx hy <;> clear hk he
  all_goals
    go_enter Try.func15, Try.ntmps15
    go_wp2_with fail
    refine h1.out.mono ?_
    rintro e w' ⟨rfl, rfl⟩
    go_wp2_with fail
    refine h2.out.mono ?_
    rintro e w' ⟨rfl, rfl⟩
    go_wp2_with fail
    refine (h3.out w).mono ?_
    rintro e w' ⟨rfl, rfl⟩
    have hb1 := (Below.refl w.heap.size w).alloc (Nat.le_refl _) (.cells #[.complex .f64 m1 m2] 23)
    generalize w.alloc (.cells #[.complex .f64 m1 m2] 23) = wa at hb1 ⊢
    have HB1 := hide hb1
    clear hb1
    go_wp2_with fail
    refine (h4.out wa).mono ?_
    rintro e w' ⟨rfl, rfl⟩
    have hb2 := HB1.out.alloc HB1.out.size (.cells #[.complex .f64 m1 m2, .complex .f64 m1 m2] 23)
    generalize wa.alloc (.cells #[.complex .f64 m1 m2, .complex .f64 m1 m2] 23) = wb at hb2 ⊢
    have HB2 := hide hb2
    clear hb2
    go_wp2_with fail
    refine (combineRuns_walk _).mono ?_
    rintro e w' ⟨rfl, hb3⟩
    go_wp2
    go_ret
    exact ⟨rfl, HB2.out.trans (hb3.mono HB2.out.size)⟩

def wantP (K4 K5 K6 E0 E1 E2 : Bool) (m : Nat × Nat) : Nat × Nat := bif K4 && !(E0 || E1 || E2) then (2, 2) else bif K5 && !E1 then (0, 4) else bif K6 && !E2 then (4, 0) else m
theorem want_1 (K4 K5 K6 E0 E1 E2 : Bool) (m : Nat × Nat) : (bif K4 && !(E0 || E1 || E2) then 4602678819172646912 else bif K5 && !E1 then 0 else bif K6 && !E2 then 4607182418800017408 else qb m.1) = qb (wantP K4 K5 K6 E0 E1 E2 m).1 := by
  unfold wantP; rcases K4 with _ | _ <;> rcases K5 with _ | _ <;> rcases K6 with _ | _ <;> rcases E0 with _ | _ <;> rcases E1 with _ | _ <;> rcases E2 with _ | _ <;> rfl
theorem want_2 (K4 K5 K6 E0 E1 E2 : Bool) (m : Nat × Nat) : (bif K4 && !(E0 || E1 || E2) then 4602678819172646912 else bif K5 && !E1 then 4607182418800017408 else bif K6 && !E2 then 0 else qb m.2) = qb (wantP K4 K5 K6 E0 E1 E2 m).2 := by
  unfold wantP; rcases K4 with _ | _ <;> rcases K5 with _ | _ <;> rcases K6 with _ | _ <;> rcases E0 with _ | _ <;> rcases E1 with _ | _ <;> rcases E2 with _ | _ <;> rfl
theorem twice_1 (K4 E0 : Bool) (m : Nat × Nat) : (bif K4 && !E0 then 4602678819172646912 else qb m.1) = qb (bif K4 && !E0 then (2, 2) else m).1 := by rcases K4 with _ | _ <;> rcases E0 with _ | _ <;> rfl
theorem twice_2 (K4 E0 : Bool) (m : Nat × Nat) : (bif K4 && !E0 then 4602678819172646912 else qb m.2) = qb (bif K4 && !E0 then (2, 2) else m).2 := by rcases K4 with _ | _ <;> rcases E0 with _ | _ <;> rfl
def w1 (j : Nat) (m : Nat × Nat) : Nat × Nat := wantP ((1 + (j : Int)) == 4) ((1 + (j : Int)) == 5) ((1 + (j : Int)) == 6) (m == (0, 0)) (m == (4, 0)) (m == (0, 4)) m
theorem one_table : ∀ j k : Fin 6, allP (1 + (j.1 : Int)) [sixP k.1] = (w1 j.1 (sixP k.1), 0) ∧ allP (1 + (j.1 : Int)) [sixP k.1, sixP k.1] = ((bif ((1 + (j.1 : Int)) == 4) && !(sixP k.1 == (0, 0)) then (2, 2) else w1 j.1 (sixP k.1)), 0) ∧
    ((((1 + (j.1 : Int)) == 4) && ((1 + (j.1 : Int)) == 5) || ((1 + (j.1 : Int)) == 4) && ((1 + (j.1 : Int)) == 6) || ((1 + (j.1 : Int)) == 5) && ((1 + (j.1 : Int)) == 6)) = false) ∧
    (((sixP k.1 == (0, 0)) && (sixP k.1 == (4, 0)) || (sixP k.1 == (0, 0)) && (sixP k.1 == (0, 4)) || (sixP k.1 == (4, 0)) && (sixP k.1 == (0, 4))) = false) := by decide +kernel
theorem self_q (m : Nat × Nat) (h : QP m) : ((FloatKind.f64.format.order (qb m.1) (qb m.1) == some .eq) && (FloatKind.f64.format.order (qb m.2) (qb m.2) == some .eq)) = true := by
  rw [q_self _ h.1, q_self _ h.2]; rfl
theorem wantP_q (K4 K5 K6 E0 E1 E2 : Bool) {m : Nat × Nat} (h : QP m) : QP (wantP K4 K5 K6 E0 E1 E2 m) := by
  unfold wantP
  cases (K4 && !(E0 || E1 || E2))
  · cases (K5 && !E1)
    · cases (K6 && !E2)
      · exact h
      · exact (⟨by decide, by decide⟩ : QP (4, 0))
    · exact (⟨by decide, by decide⟩ : QP (0, 4))
  · exact QP.half
theorem combineOne_walk (n0 : Int) (n1 : Int) (w : World) (lo0 : -9223372036854775808 ≤ n0) (hi0 : n0 ≤ 9223372036854775807) (lo1 : -9223372036854775808 ≤ n1) (hi1 : n1 ≤ 9223372036854775807) :
    Calls Try.prog 15 #[.int .i64 n0, .int .i64 n1] w fun e w' => e = .returned (.bool true) ∧ Below w.heap.size w w' := by
  obtain ⟨j, hje⟩ : ∃ K : Nat, within n0 0 5 = (K : Int) := ⟨_, (Int.toNat_of_nonneg (within_lo n0 0 5 (by omega))).symm⟩
  have hj : j ≤ 5 := by have := within_hi n0 0 5 (by omega); omega
  have hW := within_any n0 0 5 w (by omega) (by omega) (by omega)
  rw [hje] at hW
  obtain ⟨k, hk, hsix⟩ : ∃ k : Nat, k ≤ 5 ∧ sixN n1 = sixP k := ⟨_, by have := within_hi n1 0 5 (by omega); omega, rfl⟩
  have h6 := six5_all n1 w
  rw [hsix] at h6
  obtain ⟨t1, t2, t3, t4⟩ := one_table ⟨j, by omega⟩ ⟨k, by omega⟩
  simp only at t1 t2 t3 t4
  have hq := sixP_q k
  generalize sixP k = m at *
  have hwq : QP (w1 j m) := wantP_q _ _ _ _ _ _ hq
  have hwq2 : QP (bif ((1 + (j : Int)) == 4) && !(m == (0, 0)) then (2, 2) else w1 j m) := by
    cases (((1 + (j : Int)) == 4) && !(m == (0, 0)))
    · exact hwq
    · exact QP.half
  refine one_core n0 n1 j _ _ (qb (w1 j m).1) (qb (w1 j m).2) (qb (bif ((1 + (j : Int)) == 4) && !(m == (0, 0)) then (2, 2) else w1 j m).1) (qb (bif ((1 + (j : Int)) == 4) && !(m == (0, 0)) then (2, 2) else w1 j m).2) hj _ _ _ _ _ _ w hW h6 (fun W => ?_) (fun W => ?_) rfl rfl rfl t3
    (mark_eq m.1 m.2 0 0 hq (by decide) (by decide)) (mark_eq m.1 m.2 4 0 hq (by decide) (by decide)) (mark_eq m.1 m.2 0 4 hq (by decide) (by decide)) t4 ?_ ?_
  · exact all_lit (1 + (j : Int)) _ 1 1 [m] rfl _ (W.heap.size + 1) _ (small _ (by decide)) (by intro x hx; simp at hx; subst hx; exact hq) (Sl.laid W _ _ _ _ rfl) (by rw [t1]; rfl)
  · exact all_lit (1 + (j : Int)) _ 2 2 [m, m] rfl _ (W.heap.size + 1) _ (small _ (by decide)) (by intro x hx; simp at hx; subst hx; exact hq) (Sl.laid W _ _ _ _ rfl) (by rw [t2]; rfl)
  · rw [want_1, want_2]; exact self_q _ hwq
  · rw [want_1, want_2, twice_1, twice_2]; exact self_q _ hwq2
end Go.Proofs.Ytlkikaeboeaadaa
