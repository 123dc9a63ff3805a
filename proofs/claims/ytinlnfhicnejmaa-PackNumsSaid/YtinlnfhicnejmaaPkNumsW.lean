/-
  THE WALK OF bailifflaw1.PackNums: it returns true; only new memory is laid.
-/
import Derived.Test.YtinlnfhicnejmaaPkInW
import Derived.Test.YtinlnfhicnejmaaPkLaws
import Derived.Deep.RegionHeld3
import Derived.Deep.DeepCutAuto
namespace Go.Proofs.Ytinlnfhicnejmaa
open Go.RowKit
set_option linter.unusedVariables false

/-- A row of so many bytes, in new memory. -/
def LenPost (w : World) (n : Nat) (e : Ending) (w' : World) : Prop := ∃ A c, e = .returned (.slice A n c) ∧ Below w.heap.size w w'
theorem num_len (k : Int) (n : Nat) (w : World) (h1 : -9223372036854775808 ≤ k) (h2 : k ≤ 9223372036854775807) (hn : (numP k).length = n) :
    Calls Try.prog 19 #[.slice none 0 0, .int .i64 k] w (LenPost w n) := by
  refine (num_any none 0 0 k [] rfl w h1 h2 (by simp) Sl.nil).mono ?_
  rw [List.nil_append]
  rintro e w1 ⟨v, rfl, hown, hb⟩
  obtain ⟨A, c, rfl, hc, hsl⟩ := own_sl hown
  exact ⟨A, c, by rw [hn], hb⟩
theorem one_to_8 {x : Int} (h1 : 1 ≤ x) (h2 : x ≤ 8) : x = 1 ∨ x = 2 ∨ x = 3 ∨ x = 4 ∨ x = 5 ∨ x = 6 ∨ x = 7 ∨ x = 8 := by omega
set_option maxHeartbeats 4000000 in
theorem packNums_walk (n0 : Int) (n1 : Int) (w : World) (lo0 : -9223372036854775808 ≤ n0) (hi0 : n0 ≤ 9223372036854775807) (lo1 : -9223372036854775808 ≤ n1) (hi1 : n1 ≤ 9223372036854775807) :
    Calls Try.prog 6 #[.int .i64 n0, .int .i64 n1] w fun e w' => e = .returned (.bool true) ∧ Below w.heap.size w w' := by
  have h10 := numP_10 n0 lo0 hi0
  have h0 : 1 ≤ (numP n0).length := vint_pos (zz n0)
  have hone := numP_one n0
  have hlast := hide (numP_last n0)
  have HA := hide (num_any none 0 0 n0 [] rfl w lo0 hi0 (by simp) Sl.nil)
  rw [List.nil_append] at HA
  have HW := hide (fun w => within_any n1 1 8 w (by omega) (by omega) (by omega))
  have H8 := hide (one_to_8 (within_lo n1 1 8 (by omega)) (within_hi n1 1 8 (by omega)))
  generalize within n1 1 8 = i at HW H8
  generalize numP n0 = L at *
  clear lo0 hi0 lo1 hi1
  go_enter Try.func6, Try.ntmps6
  go_wp2_with fail
  refine HA.out.mono ?_
  rintro e w1 ⟨v, rfl, hown, hb⟩
  obtain ⟨A, c, rfl, hc, hsl⟩ := own_sl hown
  have HD1 := hide hb
  have HSL := hide hsl
  clear hown hb hsl HA
  go_upto_region 2 with (fail)
  go_cut [44] from 11 (fun c w' => c = .bool false ∧ w' = w1)
  case first =>
    have k1 : ¬ (L.length : Int) < 1 := by omega
    have k2 : ¬ (10 : Int) < (L.length : Int) := by omega
    by_cases h1 : L.length = 1
    · obtain ⟨q1, q2⟩ := hone.1 h1
      have z1 : ((L.length : Int) == 1) = true := beq_iff_eq.2 (by omega)
      have z2 : ¬ (1 : Int) < (L.length : Int) := by omega
      clear hone HSL hlast h10 h0 h1 hc
      go_wp2
      all_goals
        go_meet
        exact ⟨rfl, rfl⟩
    · have hn : ¬ (-64 ≤ n0 ∧ n0 ≤ 63) := fun h => h1 (hone.2 h)
      have z1 : ((L.length : Int) == 1) = false := beq_eq_false_iff_ne.2 (by omega)
      have z2 : (1 : Int) < (L.length : Int) := by omega
      obtain ⟨ch, hch, hpos⟩ := hlast.out (by omega)
      obtain ⟨b, off, rfl, _, hcell⟩ := HSL.out.at (i := L.length - 1) (x := .int .u8 ch.toNat) (by rw [vbytes_at, hch]; rfl)
      have z3 : wrap64 ((L.length : Int) - 1) = ((L.length - 1 : Nat) : Int) := by rw [IntWalk.wrap64_in _ ⟨by omega, by omega⟩]; omega
      have z4 : ((ch.toNat : Int) == 0) = false := beq_eq_false_iff_ne.2 (by omega)
      have z5 : ((L.length : Int) - 1).toNat = L.length - 1 := by omega
      have z6 : (L.length : Int) - 1 < (L.length : Int) := by omega
      have z7 : (0 : Int) ≤ (L.length : Int) - 1 := by omega
      clear hone HSL hlast hch hpos
      rcases Int.lt_or_le n0 (-64) with q | q
      · have q' : ¬ -64 ≤ n0 := by omega
        clear hn
        go_wp2
        all_goals
          go_meet
          exact ⟨rfl, rfl⟩
      · have q' : ¬ n0 ≤ 63 := fun h => hn ⟨q, h⟩
        clear hn
        go_wp2
        all_goals
          go_meet
          exact ⟨rfl, rfl⟩
  case rest =>
    obtain ⟨rfl, rfl⟩ := hcut
    clear hone hlast HSL h10 h0 hc
    go_wp2_with fail
    refine (HW.out wc).mono ?_
    rintro e w2 ⟨rfl, rfl⟩
    have hge : wc.heap.size ≤ wc.heap.size := Nat.le_refl _
    rcases H8.out with rfl | rfl | rfl | rfl | rfl | rfl | rfl | rfl
    · have HP : (numP 64).length = 2 := numP_len 64 1 (by decide) (by decide)
      have HQ : (numP 63).length = 1 := numP_len 63 0 (by decide) (by decide)
      have HM := hide (fun w => num_len (-64) 1 w (by decide) (by decide) (numP_len (-64) 0 (by decide) (by decide)))
      have v1 : IntKind.i64.wrap 7 = 7 := by rfl
      have v2 : IntKind.i64.wrap 6 = 6 := by rfl
      have v3 : IntKind.i64.wrap 64 = 64 := by rfl
      have v4 : IntKind.i64.wrap 63 = 63 := by rfl
      have v5 : IntKind.i64.wrap (-64) = -64 := by rfl
      go_wp2
      go_region_held3 (fun w' => Below wc.heap.size wc w')
        (first | assumption | exact (Below.refl _ _).drew | exact hcA | exact Below.drew (by assumption))
        ((go_at_call 19
          refine (num_len _ _ _ (by decide) (by decide) rfl).mono ?_
          rintro e wA ⟨aA, cA, rfl, hbA⟩
          have hcA : Below wc.heap.size wc wA := below_on (by assumption) hbA))
      all_goals
        have HB2 : Hid (Below w.heap.size w _) := hide (below_on HD1.out (by assumption))
        go_wp2_with fail
        refine (HM.out _).mono ?_
        rintro e w5 ⟨aM, cM, rfl, hb5⟩
        have HB5 := hide (below_on HB2.out hb5)
        clear hb5
        go_wp2_with fail
        refine (packRuns_walk w5).mono ?_
        rintro e w6 ⟨rfl, hb6⟩
        have HB6 := hide (below_on HB5.out hb6)
        clear hb6
        go_wp2
        go_ret
        exact ⟨rfl, HB6.out⟩
    · have HP : (numP 8192).length = 3 := numP_len 8192 2 (by decide) (by decide)
      have HQ : (numP 8191).length = 2 := numP_len 8191 1 (by decide) (by decide)
      have HM := hide (fun w => num_len (-8192) 2 w (by decide) (by decide) (numP_len (-8192) 1 (by decide) (by decide)))
      have v1 : IntKind.i64.wrap 14 = 14 := by rfl
      have v2 : IntKind.i64.wrap 13 = 13 := by rfl
      have v3 : IntKind.i64.wrap 8192 = 8192 := by rfl
      have v4 : IntKind.i64.wrap 8191 = 8191 := by rfl
      have v5 : IntKind.i64.wrap (-8192) = -8192 := by rfl
      go_wp2
      go_region_held3 (fun w' => Below wc.heap.size wc w')
        (first | assumption | exact (Below.refl _ _).drew | exact hcA | exact Below.drew (by assumption))
        ((go_at_call 19
          refine (num_len _ _ _ (by decide) (by decide) rfl).mono ?_
          rintro e wA ⟨aA, cA, rfl, hbA⟩
          have hcA : Below wc.heap.size wc wA := below_on (by assumption) hbA))
      all_goals
        have HB2 : Hid (Below w.heap.size w _) := hide (below_on HD1.out (by assumption))
        go_wp2_with fail
        refine (HM.out _).mono ?_
        rintro e w5 ⟨aM, cM, rfl, hb5⟩
        have HB5 := hide (below_on HB2.out hb5)
        clear hb5
        go_wp2_with fail
        refine (packRuns_walk w5).mono ?_
        rintro e w6 ⟨rfl, hb6⟩
        have HB6 := hide (below_on HB5.out hb6)
        clear hb6
        go_wp2
        go_ret
        exact ⟨rfl, HB6.out⟩
    · have HP : (numP 1048576).length = 4 := numP_len 1048576 3 (by decide) (by decide)
      have HQ : (numP 1048575).length = 3 := numP_len 1048575 2 (by decide) (by decide)
      have HM := hide (fun w => num_len (-1048576) 3 w (by decide) (by decide) (numP_len (-1048576) 2 (by decide) (by decide)))
      have v1 : IntKind.i64.wrap 21 = 21 := by rfl
      have v2 : IntKind.i64.wrap 20 = 20 := by rfl
      have v3 : IntKind.i64.wrap 1048576 = 1048576 := by rfl
      have v4 : IntKind.i64.wrap 1048575 = 1048575 := by rfl
      have v5 : IntKind.i64.wrap (-1048576) = -1048576 := by rfl
      go_wp2
      go_region_held3 (fun w' => Below wc.heap.size wc w')
        (first | assumption | exact (Below.refl _ _).drew | exact hcA | exact Below.drew (by assumption))
        ((go_at_call 19
          refine (num_len _ _ _ (by decide) (by decide) rfl).mono ?_
          rintro e wA ⟨aA, cA, rfl, hbA⟩
          have hcA : Below wc.heap.size wc wA := below_on (by assumption) hbA))
      all_goals
        have HB2 : Hid (Below w.heap.size w _) := hide (below_on HD1.out (by assumption))
        go_wp2_with fail
        refine (HM.out _).mono ?_
        rintro e w5 ⟨aM, cM, rfl, hb5⟩
        have HB5 := hide (below_on HB2.out hb5)
        clear hb5
        go_wp2_with fail
        refine (packRuns_walk w5).mono ?_
        rintro e w6 ⟨rfl, hb6⟩
        have HB6 := hide (below_on HB5.out hb6)
        clear hb6
        go_wp2
        go_ret
        exact ⟨rfl, HB6.out⟩
    · have HP : (numP 134217728).length = 5 := numP_len 134217728 4 (by decide) (by decide)
      have HQ : (numP 134217727).length = 4 := numP_len 134217727 3 (by decide) (by decide)
      have HM := hide (fun w => num_len (-134217728) 4 w (by decide) (by decide) (numP_len (-134217728) 3 (by decide) (by decide)))
      have v1 : IntKind.i64.wrap 28 = 28 := by rfl
      have v2 : IntKind.i64.wrap 27 = 27 := by rfl
      have v3 : IntKind.i64.wrap 134217728 = 134217728 := by rfl
      have v4 : IntKind.i64.wrap 134217727 = 134217727 := by rfl
      have v5 : IntKind.i64.wrap (-134217728) = -134217728 := by rfl
      go_wp2
      go_region_held3 (fun w' => Below wc.heap.size wc w')
        (first | assumption | exact (Below.refl _ _).drew | exact hcA | exact Below.drew (by assumption))
        ((go_at_call 19
          refine (num_len _ _ _ (by decide) (by decide) rfl).mono ?_
          rintro e wA ⟨aA, cA, rfl, hbA⟩
          have hcA : Below wc.heap.size wc wA := below_on (by assumption) hbA))
      all_goals
        have HB2 : Hid (Below w.heap.size w _) := hide (below_on HD1.out (by assumption))
        go_wp2_with fail
        refine (HM.out _).mono ?_
        rintro e w5 ⟨aM, cM, rfl, hb5⟩
        have HB5 := hide (below_on HB2.out hb5)
        clear hb5
        go_wp2_with fail
        refine (packRuns_walk w5).mono ?_
        rintro e w6 ⟨rfl, hb6⟩
        have HB6 := hide (below_on HB5.out hb6)
        clear hb6
        go_wp2
        go_ret
        exact ⟨rfl, HB6.out⟩
    · have HP : (numP 17179869184).length = 6 := numP_len 17179869184 5 (by decide) (by decide)
      have HQ : (numP 17179869183).length = 5 := numP_len 17179869183 4 (by decide) (by decide)
      have HM := hide (fun w => num_len (-17179869184) 5 w (by decide) (by decide) (numP_len (-17179869184) 4 (by decide) (by decide)))
      have v1 : IntKind.i64.wrap 35 = 35 := by rfl
      have v2 : IntKind.i64.wrap 34 = 34 := by rfl
      have v3 : IntKind.i64.wrap 17179869184 = 17179869184 := by rfl
      have v4 : IntKind.i64.wrap 17179869183 = 17179869183 := by rfl
      have v5 : IntKind.i64.wrap (-17179869184) = -17179869184 := by rfl
      go_wp2
      go_region_held3 (fun w' => Below wc.heap.size wc w')
        (first | assumption | exact (Below.refl _ _).drew | exact hcA | exact Below.drew (by assumption))
        ((go_at_call 19
          refine (num_len _ _ _ (by decide) (by decide) rfl).mono ?_
          rintro e wA ⟨aA, cA, rfl, hbA⟩
          have hcA : Below wc.heap.size wc wA := below_on (by assumption) hbA))
      all_goals
        have HB2 : Hid (Below w.heap.size w _) := hide (below_on HD1.out (by assumption))
        go_wp2_with fail
        refine (HM.out _).mono ?_
        rintro e w5 ⟨aM, cM, rfl, hb5⟩
        have HB5 := hide (below_on HB2.out hb5)
        clear hb5
        go_wp2_with fail
        refine (packRuns_walk w5).mono ?_
        rintro e w6 ⟨rfl, hb6⟩
        have HB6 := hide (below_on HB5.out hb6)
        clear hb6
        go_wp2
        go_ret
        exact ⟨rfl, HB6.out⟩
    · have HP : (numP 2199023255552).length = 7 := numP_len 2199023255552 6 (by decide) (by decide)
      have HQ : (numP 2199023255551).length = 6 := numP_len 2199023255551 5 (by decide) (by decide)
      have HM := hide (fun w => num_len (-2199023255552) 6 w (by decide) (by decide) (numP_len (-2199023255552) 5 (by decide) (by decide)))
      have v1 : IntKind.i64.wrap 42 = 42 := by rfl
      have v2 : IntKind.i64.wrap 41 = 41 := by rfl
      have v3 : IntKind.i64.wrap 2199023255552 = 2199023255552 := by rfl
      have v4 : IntKind.i64.wrap 2199023255551 = 2199023255551 := by rfl
      have v5 : IntKind.i64.wrap (-2199023255552) = -2199023255552 := by rfl
      go_wp2
      go_region_held3 (fun w' => Below wc.heap.size wc w')
        (first | assumption | exact (Below.refl _ _).drew | exact hcA | exact Below.drew (by assumption))
        ((go_at_call 19
          refine (num_len _ _ _ (by decide) (by decide) rfl).mono ?_
          rintro e wA ⟨aA, cA, rfl, hbA⟩
          have hcA : Below wc.heap.size wc wA := below_on (by assumption) hbA))
      all_goals
        have HB2 : Hid (Below w.heap.size w _) := hide (below_on HD1.out (by assumption))
        go_wp2_with fail
        refine (HM.out _).mono ?_
        rintro e w5 ⟨aM, cM, rfl, hb5⟩
        have HB5 := hide (below_on HB2.out hb5)
        clear hb5
        go_wp2_with fail
        refine (packRuns_walk w5).mono ?_
        rintro e w6 ⟨rfl, hb6⟩
        have HB6 := hide (below_on HB5.out hb6)
        clear hb6
        go_wp2
        go_ret
        exact ⟨rfl, HB6.out⟩
    · have HP : (numP 281474976710656).length = 8 := numP_len 281474976710656 7 (by decide) (by decide)
      have HQ : (numP 281474976710655).length = 7 := numP_len 281474976710655 6 (by decide) (by decide)
      have HM := hide (fun w => num_len (-281474976710656) 7 w (by decide) (by decide) (numP_len (-281474976710656) 6 (by decide) (by decide)))
      have v1 : IntKind.i64.wrap 49 = 49 := by rfl
      have v2 : IntKind.i64.wrap 48 = 48 := by rfl
      have v3 : IntKind.i64.wrap 281474976710656 = 281474976710656 := by rfl
      have v4 : IntKind.i64.wrap 281474976710655 = 281474976710655 := by rfl
      have v5 : IntKind.i64.wrap (-281474976710656) = -281474976710656 := by rfl
      go_wp2
      go_region_held3 (fun w' => Below wc.heap.size wc w')
        (first | assumption | exact (Below.refl _ _).drew | exact hcA | exact Below.drew (by assumption))
        ((go_at_call 19
          refine (num_len _ _ _ (by decide) (by decide) rfl).mono ?_
          rintro e wA ⟨aA, cA, rfl, hbA⟩
          have hcA : Below wc.heap.size wc wA := below_on (by assumption) hbA))
      all_goals
        have HB2 : Hid (Below w.heap.size w _) := hide (below_on HD1.out (by assumption))
        go_wp2_with fail
        refine (HM.out _).mono ?_
        rintro e w5 ⟨aM, cM, rfl, hb5⟩
        have HB5 := hide (below_on HB2.out hb5)
        clear hb5
        go_wp2_with fail
        refine (packRuns_walk w5).mono ?_
        rintro e w6 ⟨rfl, hb6⟩
        have HB6 := hide (below_on HB5.out hb6)
        clear hb6
        go_wp2
        go_ret
        exact ⟨rfl, HB6.out⟩
    · have HP : (numP 36028797018963968).length = 9 := numP_len 36028797018963968 8 (by decide) (by decide)
      have HQ : (numP 36028797018963967).length = 8 := numP_len 36028797018963967 7 (by decide) (by decide)
      have HM := hide (fun w => num_len (-36028797018963968) 8 w (by decide) (by decide) (numP_len (-36028797018963968) 7 (by decide) (by decide)))
      have v1 : IntKind.i64.wrap 56 = 56 := by rfl
      have v2 : IntKind.i64.wrap 55 = 55 := by rfl
      have v3 : IntKind.i64.wrap 36028797018963968 = 36028797018963968 := by rfl
      have v4 : IntKind.i64.wrap 36028797018963967 = 36028797018963967 := by rfl
      have v5 : IntKind.i64.wrap (-36028797018963968) = -36028797018963968 := by rfl
      go_wp2
      go_region_held3 (fun w' => Below wc.heap.size wc w')
        (first | assumption | exact (Below.refl _ _).drew | exact hcA | exact Below.drew (by assumption))
        ((go_at_call 19
          refine (num_len _ _ _ (by decide) (by decide) rfl).mono ?_
          rintro e wA ⟨aA, cA, rfl, hbA⟩
          have hcA : Below wc.heap.size wc wA := below_on (by assumption) hbA))
      all_goals
        have HB2 : Hid (Below w.heap.size w _) := hide (below_on HD1.out (by assumption))
        go_wp2_with fail
        refine (HM.out _).mono ?_
        rintro e w5 ⟨aM, cM, rfl, hb5⟩
        have HB5 := hide (below_on HB2.out hb5)
        clear hb5
        go_wp2_with fail
        refine (packRuns_walk w5).mono ?_
        rintro e w6 ⟨rfl, hb6⟩
        have HB6 := hide (below_on HB5.out hb6)
        clear hb6
        go_wp2
        go_ret
        exact ⟨rfl, HB6.out⟩
end Go.Proofs.Ytinlnfhicnejmaa
