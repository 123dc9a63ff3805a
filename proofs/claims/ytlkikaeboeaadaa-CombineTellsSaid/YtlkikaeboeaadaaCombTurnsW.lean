/-
  THE WALK OF bailifflaw5.CombineTurns: it returns true; only new memory is laid.
-/
import Derived.Test.YtlkikaeboeaadaaCombSureW
namespace Go.Proofs.Ytlkikaeboeaadaa
open Go.RowKit
set_option linter.unusedVariables false

theorem alg_turn2 (l : List (Nat × Nat)) : algP 2 (l.map swapP) = swapP (algP 1 l) := by
  show swapP (overP (swapP (joinsP (l.map swapP)))) = swapP (overP (joinsP l))
  rw [joins_turn]; rfl
theorem alg_turn6 (l : List (Nat × Nat)) : algP 6 (l.map swapP) = swapP (algP 5 l) := unless_turn (0, 4) (4, 0) l
theorem alg_turn3 (l : List (Nat × Nat)) : algP 3 (l.map swapP) = swapP (algP 3 l) := first_turn l
theorem map_q {l : List (Nat × Nat)} (h : QPs l) : QPs (l.map swapP) := fun m hm => by
  obtain ⟨x, hx, rfl⟩ := List.mem_map.1 hm
  exact (h x hx).swap
theorem map_6 {l : List (Nat × Nat)} (h : All6 l) : All6 (l.map swapP) := fun m hm => by
  obtain ⟨x, hx, rfl⟩ := List.mem_map.1 hm
  exact swap_right (h x hx)
theorem map_step (l : List (Nat × Nat)) (k : Nat) (hk : k < l.length) : vm ((l.take (k + 1)).map swapP) = vm ((l.take k).map swapP) ++ vm [swapP l[k]] := by
  rw [List.take_succ_eq_append_getElem hk, List.map_append, vm_append]; rfl
theorem turn_c (a b : Nat × Nat) (h : swapP a = b) (w : World) : Calls Try.prog 19 #[.complex .f64 (qb a.1) (qb a.2)] w fun e w' => e = .returned (.complex .f64 (qb b.1) (qb b.2)) ∧ w = w' := by
  subst h; exact turn_any a w
set_option maxHeartbeats 8000000 in
theorem combineTurns_walk (a0 : Option Addr) (cap0 : Nat) (l0 : List Int) (w : World) (hl0 : l0.length ≤ cap0) (hm0 : cap0 ≤ maxLen) (s0 : Sl w w.heap.size a0 (vints .i64 l0)) :
    Calls Try.prog 12 #[.slice a0 l0.length cap0] w fun e w' => e = .returned (.bool true) ∧ Below w.heap.size w w' := by
  obtain ⟨i0, hi, hz0, hz1, hz2⟩ := info_parts infoM
  have Hi := hide hi
  have Hz0 := hide hz0
  have Hz1 := hide hz1
  have Hz2 := hide hz2
  clear hi hz0 hz1 hz2
  go_enter Try.func12, Try.ntmps12
  go_wp2_with fail
  refine (row_any a0 cap0 _ l0 rfl w hl0 hm0 s0).mono ?_
  rintro e w1 ⟨v, rfl, hown, hb1⟩
  have hlen := rowP_length l0
  have HQ := hide (rowP_q l0)
  have H6 := hide (rowP_all6 l0)
  generalize rowP l0 = l at hown hlen HQ H6
  have hl20 : l.length ≤ 20 := by omega
  clear hlen s0
  obtain ⟨A, cap, rfl, hnc, hsl, _⟩ := own_slice hown
  have HB := hide hb1
  clear hown hb1
  go_wp2
  go_loopw [4, 23] (fun v i wr => ∃ k : Nat, k ≤ l.length ∧ i = .int .i64 k ∧ wr.ownsRow w1.heap.size 23 1 v k (vm ((l.take k).map swapP)) ∧ Below w1.heap.size w1 wr) (fun _ i _ => l.length - (intOf i).toNat)
  case atStart => exact ⟨0, Nat.zero_le _, rfl, World.ownsRow_nil _ _ _ _, Below.refl _ _⟩
  case round =>
    obtain ⟨k, hk, rfl, hown, hbel⟩ := hrel
    by_cases hlt : k < l.length
    · obtain ⟨b, off, rfl, hb0, hcell⟩ := (hsl.below hbel).mark hlt
      have hT := hide (turn_c l[k] (swapP l[k]) rfl wr)
      have hstep := hide (map_step l k hlt)
      have hM1 := hide (one_vm [swapP l[k]])
      have hvm : Hid (vm [swapP l[k]] = [.complex .f64 (qb (swapP l[k]).1) (qb (swapP l[k]).2)]) := rfl
      generalize qb l[k].1 = x at hcell hT
      generalize qb l[k].2 = y at hcell hT
      generalize vm [swapP l[k]] = M at hstep hM1 hvm
      generalize qb (swapP l[k]).1 = x' at hvm hT
      generalize qb (swapP l[k]).2 = y' at hvm hT
      have HO := hide hown
      have HBE := hide hbel
      have HSL := hide hsl
      clear hown hsl hbel
      go_wp2_with fail
      refine hT.out.mono ?_
      rintro e w' ⟨rfl, rfl⟩
      have hown2 := HO.out.alloc (.cells #[.complex .f64 x' y'] 23)
      have hc2 : Sl (wr.alloc (.cells #[.complex .f64 x' y'] 23)) (wr.heap.size + 1) (some ⟨wr.heap.size, 0, none⟩) M := by rw [hvm.out]; exact Sl.laid wr _ _ _ _ rfl
      have hb2 := HBE.out.alloc HBE.out.size (.cells #[.complex .f64 x' y'] 23)
      have HV : Hid (M.length = 1 * 1) := hide (by rw [hvm.out]; rfl)
      go_wp2_with (at_builtin; refine wpList_app _ rfl (.tmp 27) (.tmp 30) 39 rfl w1.heap.size 23 i0 (.complex .f64 0 0) 1 16 Try.underlying39 Hi.out Hz0.out Hz1.out Hz2.out rfl (by decide) _ k _ rfl hown2 (wr.heap.size + 1) (some ⟨wr.heap.size, 0, none⟩) 1 1 M rfl HV.out hc2 hM1.out (by unfold maxLen; omega) (by omega) hb2.size ?_; intro v3 w3 hown3 hg3 hat3; have hb3 : Below w1.heap.size w1 w3 := own_below hown2 hb2 hg3 (Nat.le_refl _) hb2.size; rw [← hstep.out] at hown3)
      go_roundw
      case rel => exact ⟨k + 1, by omega, by go_num, hown3, hb3⟩
      case measure => simp [intOf]; omega
    · obtain rfl : k = l.length := by omega
      rw [List.take_length] at hown
      have hs2 := hsl.below hbel
      obtain ⟨T, cap2, rfl, hnc2, hst, _⟩ := own_slice hown
      have HB2 := hide (HB.out.trans (hbel.mono HB.out.size))
      have hlm : (l.map swapP).length = l.length := by simp
      have hA := hide (alg_k 1 (by decide) (by decide) A cap _ l rfl wr w1.heap.size (by omega) HQ.out H6.out hs2)
      have hC := hide (alg_k 5 (by decide) (by decide) A cap _ l rfl wr w1.heap.size (by omega) HQ.out H6.out hs2)
      have hF := hide (alg_k 3 (by decide) (by decide) A cap _ l rfl wr w1.heap.size (by omega) HQ.out H6.out hs2)
      have hB := alg_k 2 (by decide) (by decide) T cap2 _ (l.map swapP) hlm wr wr.heap.size (by omega) (map_q HQ.out) (map_6 H6.out) hst
      have hD := alg_k 6 (by decide) (by decide) T cap2 _ (l.map swapP) hlm wr wr.heap.size (by omega) (map_q HQ.out) (map_6 H6.out) hst
      have hG := alg_k 3 (by decide) (by decide) T cap2 _ (l.map swapP) hlm wr wr.heap.size (by omega) (map_q HQ.out) (map_6 H6.out) hst
      rw [alg_turn2] at hB
      rw [alg_turn6] at hD
      rw [alg_turn3] at hG
      have hqa := algP_q (k := 1) HQ.out
      have hqc := algP_q (k := 5) HQ.out
      have hqf := algP_q (k := 3) HQ.out
      have a1 := q_self _ hqa.1
      have a2 := q_self _ hqa.2
      have f1 := q_self _ hqf.1
      have f2 := q_self _ hqf.2
      have tB := hide (turn_c (swapP (algP 1 l)) (algP 1 l) rfl wr)
      have tD := hide (turn_c (swapP (algP 5 l)) (algP 5 l) rfl wr)
      have tG := hide (turn_c (swapP (algP 3 l)) (algP 3 l) rfl wr)
      have hA : Hid (Calls Try.prog 30 #[.int .i64 1, .slice A l.length cap] wr fun e w' => e = .returned (.tuple #[.complex .f64 (qb (algP 1 l).1) (qb (algP 1 l).2), .int .i64 0]) ∧ wr = w') := hA
      have hC : Hid (Calls Try.prog 30 #[.int .i64 5, .slice A l.length cap] wr fun e w' => e = .returned (.tuple #[.complex .f64 (qb (algP 5 l).1) (qb (algP 5 l).2), .int .i64 0]) ∧ wr = w') := hC
      have hF : Hid (Calls Try.prog 30 #[.int .i64 3, .slice A l.length cap] wr fun e w' => e = .returned (.tuple #[.complex .f64 (qb (algP 3 l).1) (qb (algP 3 l).2), .int .i64 0]) ∧ wr = w') := hF
      have hB : Hid (Calls Try.prog 30 #[.int .i64 2, .slice T l.length cap2] wr fun e w' => e = .returned (.tuple #[.complex .f64 (qb (swapP (algP 1 l)).1) (qb (swapP (algP 1 l)).2), .int .i64 0]) ∧ wr = w') := hB
      have hD : Hid (Calls Try.prog 30 #[.int .i64 6, .slice T l.length cap2] wr fun e w' => e = .returned (.tuple #[.complex .f64 (qb (swapP (algP 5 l)).1) (qb (swapP (algP 5 l)).2), .int .i64 0]) ∧ wr = w') := hD
      have hG : Hid (Calls Try.prog 30 #[.int .i64 3, .slice T l.length cap2] wr fun e w' => e = .returned (.tuple #[.complex .f64 (qb (swapP (algP 3 l)).1) (qb (swapP (algP 3 l)).2), .int .i64 0]) ∧ wr = w') := hG
      have c1 : ((FloatKind.f64.format.order (qb (algP 5 l).1) 4607182418800017408 == some .eq) && (FloatKind.f64.format.order (qb (algP 5 l).2) 0 == some .eq)) = hasP (4, 0) l := by
        refine (mark_eq (algP 5 l).1 (algP 5 l).2 4 0 hqc (by decide) (by decide)).trans ?_
        show ((bif hasP (4, 0) l then (4, 0) else (0, 4)) == ((4, 0) : Nat × Nat)) = hasP (4, 0) l
        cases hasP (4, 0) l <;> rfl
      have c2 : ((FloatKind.f64.format.order (qb (algP 5 l).1) 0 == some .eq) && (FloatKind.f64.format.order (qb (algP 5 l).2) 4607182418800017408 == some .eq)) = !hasP (4, 0) l := by
        refine (mark_eq (algP 5 l).1 (algP 5 l).2 0 4 hqc (by decide) (by decide)).trans ?_
        show ((bif hasP (4, 0) l then (4, 0) else (0, 4)) == ((0, 4) : Nat × Nat)) = !hasP (4, 0) l
        cases hasP (4, 0) l <;> rfl
      have c3 := q_self _ hqc.1
      have c4 := q_self _ hqc.2
      clear hsl hown hs2 hst HQ H6 hbel hlt hk hqa hqc hqf
      generalize qb (swapP (algP 1 l)).1 = s1 at *
      generalize qb (swapP (algP 1 l)).2 = s2 at *
      generalize qb (swapP (algP 5 l)).1 = s3 at *
      generalize qb (swapP (algP 5 l)).2 = s4 at *
      generalize qb (swapP (algP 3 l)).1 = s5 at *
      generalize qb (swapP (algP 3 l)).2 = s6 at *
      generalize qb (algP 1 l).1 = x1 at *
      generalize qb (algP 1 l).2 = x2 at *
      generalize qb (algP 5 l).1 = x3 at *
      generalize qb (algP 5 l).2 = x4 at *
      generalize qb (algP 3 l).1 = x5 at *
      generalize qb (algP 3 l).2 = x6 at *
      generalize hasP (4, 0) l = P at *
      rcases P with _ | _
      all_goals
        go_wp2_with fail
        refine hA.out.mono ?_
        rintro e w' ⟨rfl, rfl⟩
        go_wp2_with fail
        refine hB.out.mono ?_
        rintro e w' ⟨rfl, rfl⟩
        go_wp2_with fail
        refine hC.out.mono ?_
        rintro e w' ⟨rfl, rfl⟩
        go_wp2_with fail
        refine hD.out.mono ?_
        rintro e w' ⟨rfl, rfl⟩
        go_wp2_with fail
        refine hF.out.mono ?_
        rintro e w' ⟨rfl, rfl⟩
        go_wp2_with fail
        refine hG.out.mono ?_
        rintro e w' ⟨rfl, rfl⟩
        go_wp2_with fail
        refine tB.out.mono ?_
        rintro e w' ⟨rfl, rfl⟩
        go_wp2_with fail
        refine tD.out.mono ?_
        rintro e w' ⟨rfl, rfl⟩
        go_wp2_with fail
        refine tG.out.mono ?_
        rintro e w' ⟨rfl, rfl⟩
        go_wp2_with fail
        refine (combineRuns_walk _).mono ?_
        rintro e w' ⟨rfl, hb3⟩
        go_wp2
        go_ret
        exact ⟨rfl, HB2.out.trans (hb3.mono HB2.out.size)⟩
end Go.Proofs.Ytlkikaeboeaadaa
