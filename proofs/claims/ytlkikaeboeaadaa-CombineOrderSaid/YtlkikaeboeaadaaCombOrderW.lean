/-
  THE WALK OF bailifflaw5.CombineOrder: it returns true; only new memory is laid.
-/
import Derived.Test.YtlkikaeboeaadaaCombOrderP
namespace Go.Proofs.Ytlkikaeboeaadaa
open Go.RowKit
set_option linter.unusedVariables false
set_option maxHeartbeats 8000000 in
theorem combineOrder_walk (n0 : Int) (a1 : Option Addr) (cap1 : Nat) (l1 : List Int) (a2 : Option Addr) (cap2 : Nat) (l2 : List Int) (w : World) (lo0 : -9223372036854775808 ≤ n0) (hi0 : n0 ≤ 9223372036854775807) (hl1 : l1.length ≤ cap1) (hm1 : cap1 ≤ maxLen) (s1 : Sl w w.heap.size a1 (vints .i64 l1)) (hl2 : l2.length ≤ cap2) (hm2 : cap2 ≤ maxLen) (s2 : Sl w w.heap.size a2 (vints .i64 l2)) :
    Calls Try.prog 10 #[.int .i64 n0, .slice a1 l1.length cap1, .slice a2 l2.length cap2] w fun e w' => e = .returned (.bool true) ∧ Below w.heap.size w w' := by
  obtain ⟨i0, hi, hz0, hz1, hz2⟩ := info_parts infoM
  have Hi := hide hi
  have Hz0 := hide hz0
  have Hz1 := hide hz1
  have Hz2 := hide hz2
  clear hi hz0 hz1 hz2
  have HM2 := hide hm2
  have hm2' : cap2 ≤ 9223372036854775807 := by unfold maxLen at hm2; omega
  clear hm2
  obtain ⟨j, hje⟩ : ∃ K : Nat, within n0 0 5 = (K : Int) := ⟨_, (Int.toNat_of_nonneg (within_lo n0 0 5 (by omega))).symm⟩
  have hj : j ≤ 5 := by have := within_hi n0 0 5 (by omega); omega
  have hW := within_any n0 0 5 w (by omega) (by omega) (by omega)
  rw [hje] at hW
  have HW := hide hW
  clear hW hje
  go_enter Try.func10, Try.ntmps10
  go_wp2_with fail
  refine HW.out.mono ?_
  rintro e w' ⟨rfl, rfl⟩
  go_wp2_with fail
  refine (row_any a1 cap1 _ l1 rfl w hl1 hm1 s1).mono ?_
  rintro e w1 ⟨v, rfl, hown, hb1⟩
  have hlen := rowP_length l1
  have HQ := hide (rowP_q l1)
  have H6 := hide (rowP_all6 l1)
  have hs2 := (s2.below hb1).more hb1.size
  generalize rowP l1 = l at hown hlen HQ H6
  have hl20 : l.length ≤ 20 := by omega
  clear hlen s1 s2 HW
  obtain ⟨A, cap, rfl, hnc, hsl, _⟩ := own_slice hown
  have HB := hide hb1
  clear hown hb1
  have HX := hide (alg_any j hj A cap _ l rfl w1 w1.heap.size (by omega) HQ.out H6.out hsl)
  generalize hx1 : qb (algP (j + 1) l).1 = x1 at HX
  generalize hx2 : qb (algP (j + 1) l).2 = x2 at HX
  have HX1 := hide hx1
  have HX2 := hide hx2
  clear hx1 hx2
  go_wp2_with fail
  refine HX.out.mono ?_
  rintro e w' ⟨rfl, rfl⟩
  clear HX
  go_wp2
  go_loopw [11, 35] (fun v i wr => ∃ k : Nat, k ≤ l.length ∧ i = .int .i64 k ∧ wr.ownsRow w1.heap.size 23 1 v (F (l.take k)).length (vm (F (l.take k))) ∧ Below w1.heap.size w1 wr) (fun _ i _ => l.length - (intOf i).toNat)
  case atStart => exact ⟨0, Nat.zero_le _, rfl, World.ownsRow_nil _ _ _ _, Below.refl _ _⟩
  case round =>
    obtain ⟨k, hk, rfl, hown, hbel⟩ := hrel
    by_cases hlt : k < l.length
    · obtain ⟨b, off, rfl, hb0, hcell⟩ := (hsl.below hbel).mark hlt
      have e0 : ((FloatKind.f64.format.order (qb l[k].1) 0 == some .eq) && (FloatKind.f64.format.order (qb l[k].2) 0 == some .eq)) = (l[k] == (0, 0)) := mark_eq l[k].1 l[k].2 0 0 (HQ.out.at hlt) (by decide) (by decide)
      have hFl : (F (l.take k)).length ≤ k := Nat.le_trans (List.length_filter_le _ _) (List.length_take_le _ _)
      have hF1 : Hid (appliesP l[k] = true → F (l.take (k + 1)) = F (l.take k) ++ [l[k]]) := fun h => by rw [List.take_succ_eq_append_getElem hlt, F_append, F_cons_yes _ h]; rfl
      have hF0 : Hid (appliesP l[k] = false → F (l.take (k + 1)) = F (l.take k)) := fun h => by rw [List.take_succ_eq_append_getElem hlt, F_append, F_cons_no _ h]; exact List.append_nil _
      have hM1 := hide (one_vm [l[k]])
      have hvm : Hid (vm [l[k]] = [.complex .f64 (qb l[k].1) (qb l[k].2)]) := rfl
      have hap : appliesP l[k] = !(l[k] == (0, 0)) := rfl
      rw [hap] at hF0 hF1
      generalize (l[k] == ((0, 0) : Nat × Nat)) = E0 at e0 hF0 hF1
      have HO := hide hown
      have HBE := hide hbel
      have HSL := hide hsl
      clear hown hsl hbel hap
      generalize qb l[k].1 = x at hcell e0 hvm
      generalize qb l[k].2 = y at hcell e0 hvm
      rcases E0 with _ | _
      · have hF := hide (hF1.out rfl)
        clear hF0 hF1
        have hown2 := HO.out.alloc (.cells #[.complex .f64 x y] 23)
        have hc2 : Sl (wr.alloc (.cells #[.complex .f64 x y] 23)) (wr.heap.size + 1) (some ⟨wr.heap.size, 0, none⟩) (vm [l[k]]) := by rw [hvm.out]; exact Sl.laid wr _ _ _ _ rfl
        have hb2 := HBE.out.alloc HBE.out.size (.cells #[.complex .f64 x y] 23)
        have HV : Hid ((vm [l[k]]).length = 1 * 1) := rfl
        have hlen2 : Hid ((F (l.take k)).length + 1 = (F (l.take (k + 1))).length) := hide (by rw [hF.out]; simp)
        have hstep : Hid (vm (F (l.take (k + 1))) = vm (F (l.take k)) ++ vm [l[k]]) := hide (by rw [hF.out, vm_append])
        clear hF
        generalize F (l.take k) = f at *
        go_wp2_with (at_builtin; refine wpList_app _ rfl (.tmp 41) (.tmp 43) 39 rfl w1.heap.size 23 i0 (.complex .f64 0 0) 1 16 Try.underlying39 Hi.out Hz0.out Hz1.out Hz2.out rfl (by decide) _ f.length _ rfl hown2 (wr.heap.size + 1) (some ⟨wr.heap.size, 0, none⟩) 1 1 (vm [l[k]]) rfl HV.out hc2 hM1.out (by unfold maxLen; omega) (by omega) hb2.size ?_; intro v3 w3 hown3 hg3 hat3; have hb3 : Below w1.heap.size w1 w3 := own_below hown2 hb2 hg3 (Nat.le_refl _) hb2.size; rw [← hstep.out, hlen2.out] at hown3)
        go_roundw
        case rel => exact ⟨k + 1, by omega, by go_num, hown3, hb3⟩
        case measure => simp [intOf]; omega
      · have hF := hide (hF0.out rfl)
        clear hF0 hF1
        go_wp2
        go_roundw
        case rel => exact ⟨k + 1, by omega, by go_num, by rw [hF.out]; exact HO.out, HBE.out⟩
        case measure => simp [intOf]; omega
    · obtain rfl : k = l.length := by omega
      rw [List.take_length] at hown
      obtain ⟨SA, sc, rfl, hsc, hss, _⟩ := own_slice hown
      have HBE := hide hbel
      have hs2' := (hs2.below hbel).more hbel.size
      have hsl' := hsl.below hbel
      have HB2 := hide (HB.out.trans (hbel.mono HB.out.size))
      clear hown hbel hs2 hsl hk hlt
      have hown0 : (wr.alloc (.cells #[] 23)).ownsRow wr.heap.size 23 1 (.slice (some ⟨wr.heap.size, 0, none⟩) 0 0) 0 [] := World.ownsRow_made wr #[] 0 (Nat.le_refl _) (by simp [maxLen]) rfl
      have hb0 : Below wr.heap.size wr (wr.alloc (.cells #[] 23)) := (Below.refl _ _).alloc (Nat.le_refl _) _
      have HV : Hid ((vm l).length = l.length * 1) := hide (by rw [vm_length, Nat.mul_one])
      have hM1 := hide (one_vm l)
      have hsr := hide ((hsl'.more HBE.out.size).below hb0)
      go_wp2_with (at_builtin; refine wpList_app _ rfl (.tmp 46) (.tmp 47) 39 rfl wr.heap.size 23 i0 (.complex .f64 0 0) 1 16 Try.underlying39 Hi.out Hz0.out Hz1.out Hz2.out rfl (by decide) (.slice (some ⟨wr.heap.size, 0, none⟩) 0 0) 0 [] rfl hown0 wr.heap.size A l.length cap (vm l) rfl HV.out hsr.out hM1.out (by unfold maxLen; omega) (by omega) (by simp) ?_; intro v3 w3 hown3 hg3 hat3; have hb3 : Below wr.heap.size wr w3 := own_below hown0 hb0 hg3 (Nat.le_refl _) (by simp); rw [Nat.zero_add, List.nil_append] at hown3)
      have HL0 := hide hown3
      have HB3 := hide hb3
      clear hown0 hb0 HV hM1 hsr hown3 hg3 hat3 hb3
      have HSS := hide hss
      clear hss
      obtain ⟨wo, rfl⟩ : ∃ wo : World, wo = wr := ⟨_, rfl⟩
      go_loopg [12, 15, 16] l.length (fun g t v i wx => OrderRel l wo g t v i wx)
      case atStart => exact ⟨[], l, 0, rfl, rfl, by omega, World.ownsRow_nil _ _ _ _, HL0.out, .inl rfl, List.Perm.refl _, HB3.out⟩
      case round =>
        obtain ⟨T, L, i1, rfl, rfl, hi1, hT, hL, hap, hperm, hbel⟩ := hrel
        clear HL0 HB3
        by_cases hpos : 0 < L.length
        · obtain ⟨g, cv, rfl, hlc, hcm, hg0, hg1⟩ := own_some hL hpos
          have hcm' : cv ≤ 9223372036854775807 := by unfold maxLen at hcm; omega
          have HT := hide hT
          have HL := hide hL
          have HAP := hide hap
          have HP := hide hperm
          have HBE2 := hide hbel
          have hord := hs2'.below hbel
          clear hT hL hap hperm hbel hcm hs2'
          go_upto_if 57 with (fail)
          go_cut [17] (KMid wr L.length)
          case first =>
            by_cases hin : i1 < l2.length
            · obtain ⟨b2, off2, rfl, _, hcell⟩ := hord.int hin
              obtain ⟨K, hke⟩ : ∃ K : Nat, within l2[i1] 0 ((L.length : Int) - 1) = (K : Int) := ⟨_, (Int.toNat_of_nonneg (within_lo l2[i1] 0 ((L.length : Int) - 1) (by omega))).symm⟩
              have hK := within_any l2[i1] 0 ((L.length : Int) - 1) wr (by omega) (by omega) (by omega)
              have hkl : K < L.length := by have := within_hi l2[i1] 0 ((L.length : Int) - 1) (by omega); omega
              rw [hke] at hK
              have HK := hide hK
              clear hK hke hord
              generalize l2[i1] = z at hcell HK
              go_wp2_with fail
              refine HK.out.mono ?_
              rintro e w' ⟨rfl, rfl⟩
              go_wp2
              go_meet
              exact ⟨K, hkl, rfl, rfl⟩
            · clear hord
              go_wp2
              go_meet
              exact ⟨0, hpos, rfl, rfl⟩
          case rest =>
            obtain ⟨K, hK, rfl, rfl⟩ := hcut
            clear hpos
            have hsL : Sl wc wc.heap.size (some ⟨g, 0, none⟩) (vm L) := by
              obtain ⟨A0, c0, e0, _, h0, _⟩ := own_slice HL.out
              injection e0 with e1 _ _
              rw [e1]; exact h0
            obtain ⟨b', off', hbe, _, hcell⟩ := hsL.mark hK
            injection hbe with hbe
            injection hbe with hbe1 hbe2
            subst hbe1 hbe2
            rw [Nat.zero_add] at hcell
            have hvm : Hid (vm [L[K]] = [.complex .f64 (qb L[K].1) (qb L[K].2)]) := rfl
            have hM1 := hide (one_vm [L[K]])
            have hstep : Hid (vm (T ++ [L[K]]) = vm T ++ vm [L[K]]) := vm_append _ _
            have HPN := hide (perm_at T L l K hK HP.out)
            have hTl : T.length ≤ 20 := by have := HP.out.length_eq; rw [List.length_append] at this; omega
            generalize hm : vm [L[K]] = M at hvm hM1 hstep
            clear hm
            generalize qb L[K].1 = x at hcell hvm
            generalize qb L[K].2 = y at hcell hvm
            have hT2 := HT.out.alloc (.cells #[.complex .f64 x y] 23)
            have hc2 : Sl (wc.alloc (.cells #[.complex .f64 x y] 23)) (wc.heap.size + 1) (some ⟨wc.heap.size, 0, none⟩) M := by rw [hvm.out]; exact Sl.laid wc _ _ _ _ rfl
            have hb2 := HBE2.out.alloc HBE2.out.size (.cells #[.complex .f64 x y] 23)
            have HV : Hid (M.length = 1 * 1) := hide (by rw [hvm.out]; rfl)
            have HSL := hide hsL
            clear hsL
            go_upto_region 19 with (at_builtin; refine wpList_app _ rfl (.tmp 66) (.tmp 71) 39 rfl wo.heap.size 23 i0 (.complex .f64 0 0) 1 16 Try.underlying39 Hi.out Hz0.out Hz1.out Hz2.out rfl (by decide) _ T.length _ rfl hT2 (wc.heap.size + 1) (some ⟨wc.heap.size, 0, none⟩) 1 1 M rfl HV.out hc2 hM1.out (by unfold maxLen; omega) (by omega) hb2.size ?_; intro v3 w3 hown3 hg3 hat3; have hb3 : Below wo.heap.size wo w3 := own_below hT2 hb2 hg3 (Nat.le_refl _) hb2.size; rw [← hstep.out] at hown3)
            have hLt := own_lt HL.out
            have hLk : w3.ownsRow wo.heap.size 23 1 (.slice (some ⟨g, 0, none⟩) L.length cv) L.length (vm L) := World.ownsRow.kept (HL.out.alloc (.cells #[.complex .f64 x y] 23)) hg3 HAP.out.back
            have hT3 := hide hown3
            have hAt3 := hide hat3
            have HB4 := hide hb3
            have hlt3 : g < w3.heap.size := (own_lt hLk g rfl).2
            have hsL3 : Sl w3 w3.heap.size (some ⟨g, 0, none⟩) (vm L) := by
              obtain ⟨A0, c0, e0, _, h0, _⟩ := own_slice hLk
              injection e0 with e1 _ _
              rw [e1]; exact h0
            have HGW := hide (show g < wc.heap.size from (own_lt HL.out g rfl).2)
            clear HT HL HSL hc2 hT2 hb2 hown3 hg3 hat3 hb3 hcell hvm hM1 hstep HV hLk HBE2 hg1 hLt
            have hz3 := HB4.out.size
            have hown0 : (w3.alloc (.cells #[] 23)).ownsRow w3.heap.size 23 1 (.slice (some ⟨w3.heap.size, 0, none⟩) 0 0) 0 [] := World.ownsRow_made w3 #[] 0 (Nat.le_refl _) (by simp [maxLen]) rfl
            have hb0 : Below w3.heap.size w3 (w3.alloc (.cells #[] 23)) := (Below.refl _ _).alloc (Nat.le_refl _) _
            have HV1 : Hid ((vm (L.take K)).length = K * 1) := hide (by rw [vm_length, List.length_take, Nat.mul_one]; omega)
            have HV2 : Hid ((vm (L.drop (K + 1))).length = (L.length - (K + 1)) * 1) := hide (by rw [vm_length, List.length_drop, Nat.mul_one])
            have HS1 : Hid (Sl w3 w3.heap.size (some ⟨g, 0, none⟩) (vm (L.take K))) := hide (by rw [← vm_take]; exact hsL3.take K)
            have HS2 : Hid (Sl w3 w3.heap.size (if cv = K + 1 then some ⟨g, 0, none⟩ else some ⟨g, K + 1, none⟩) (vm (L.drop (K + 1)))) := hide (by
              by_cases hc : cv = K + 1
              · rw [List.drop_of_length_le (by omega)]; exact Sl.nil
              · rw [if_neg hc]
                have := hsL3.drop (K + 1)
                rw [Nat.zero_add, vm_drop] at this
                exact this)
            have HO1 := hide (one_vm (L.take K))
            have HO2 := hide (one_vm (L.drop (K + 1)))
            have Hq1 : Hid (0 + K ≤ maxLen) := hide (by unfold maxLen; omega)
            have Hq2 : Hid ((0 + K) * 16 ≤ 140737488355328) := hide (by omega)
            have Hk1 : Hid (K + (L.length - (K + 1)) ≤ maxLen) := hide (by unfold maxLen; omega)
            have Hk2 : Hid ((K + (L.length - (K + 1))) * 16 ≤ 140737488355328) := hide (by omega)
            have H0 := hide hown0
            have HBW := hide hb0
            have hk1 : (0 : Int) ≤ (K : Int) := by omega
            have hk2 : (K : Int) ≤ (cv : Int) := by omega
            have hk3 : (K : Int) + 1 ≤ (L.length : Int) := by omega
            have hk4 : IntKind.i64.wrap ((K : Int) + 1) = (K : Int) + 1 := IntWalk.i64_in _ (by omega)
            have hk5 : (0 : Int) ≤ (K : Int) + 1 := by omega
            have hk6 : ((K : Int) + 1).toNat = K + 1 := by omega
            clear hown0 hb0 hsL3
            go_region_held3 (fun w' => Below w3.heap.size w3 w')
                (first | assumption | exact (Below.refl _ _).drew | exact hcA | exact hcB | (exact Below.alloc (by assumption) (Below.size (by assumption)) _))
                ((first
                  | (refine step_app _ rfl (.tmp 73) (.tmp 76) 39 rfl w3.heap.size 23 i0 (.complex .f64 0 0) 1 16 Try.underlying39 Hi.out Hz0.out Hz1.out Hz2.out rfl (by decide) (.slice (some ⟨w3.heap.size, 0, none⟩) 0 0) 0 [] rfl (own_drawn H0.out ⟨1, rfl⟩) w3.heap.size (some ⟨g, 0, none⟩) K cv (vm (L.take K)) rfl HV1.out (HS1.out.below (by assumption)) HO1.out Hq1.out Hq2.out (by simp) ?_; intro v4 w4 hownA hgA hatA; have hcA : Below w3.heap.size w3 w4 := own_below (own_drawn H0.out ⟨1, rfl⟩) HBW.out.drew hgA (Nat.le_refl _) (by simp); rw [Nat.zero_add, List.nil_append] at hownA)
                  | (refine step_app _ rfl (.tmp 77) (.tmp 81) 39 rfl w3.heap.size 23 i0 (.complex .f64 0 0) 1 16 Try.underlying39 Hi.out Hz0.out Hz1.out Hz2.out rfl (by decide) v4 K (vm (L.take K)) rfl hownA w3.heap.size (if cv = K + 1 then some ⟨g, 0, none⟩ else some ⟨g, K + 1, none⟩) (L.length - (K + 1)) (cv - (K + 1)) (vm (L.drop (K + 1))) rfl HV2.out (HS2.out.below hcA) HO2.out Hk1.out Hk2.out hcA.size ?_; intro v5 w5 hownB hgB hatB; have hcB : Below w3.heap.size w3 w5 := own_below hownA hcA hgB (Nat.le_refl _) hcA.size)))
            have hgB' : World.grownBy w4 w5 (Value.ownBlock v4) := hgB
            have h5 : w4.ownsRow wo.heap.size 23 1 v3 (T.length + 1) (vm (T ++ [L[K]])) := own_keep_new hT3.out (.cells #[] 23) 1 hgA
            have hTn : w5.ownsRow wo.heap.size 23 1 v3 (T ++ [L[K]]).length (vm (T ++ [L[K]])) := by
              rw [show (T ++ [L[K]]).length = T.length + 1 by simp]
              exact World.ownsRow.kept h5 hgB' (own_apart hT3.out hownA (Nat.le_refl _))
            have hapn : Apart v3 v5 := own_apart hT3.out hownB (Nat.le_refl _)
            have hlenn : (L.take K ++ L.drop (K + 1)).length = K + (L.length - (K + 1)) := by rw [List.length_append, List.length_take, List.length_drop]; omega
            have hLn : w5.ownsRow wo.heap.size 23 1 v5 (L.take K ++ L.drop (K + 1)).length (vm (L.take K ++ L.drop (K + 1))) := by
              rw [hlenn, vm_append]; exact own_base hownB hz3
            have REL : Hid (OrderRel l wo (L.length - 1) v3 v5 (.int .i64 ((i1 : Int) + 1)) w5) := hide ⟨T ++ [L[K]], L.take K ++ L.drop (K + 1), i1 + 1, by omega, by go_num, by omega, hTn, hLn, hapn, HPN.out, HB4.out.trans (hcB.mono hz3)⟩
            clear hgB' h5 hTn hapn hlenn hLn hgB hgA hownA hownB hcA hcB hk1 hk2 hk3 hk4 hk5 hk6 hatA hatB
            go_wp2
            all_goals
              go_roundg (L.length - 1)
              case measure => omega
              case rel => exact REL.out
        · obtain rfl : L = [] := List.eq_nil_of_length_eq_zero (by omega)
          obtain ⟨LA, lc, rfl, _, _, _⟩ := own_slice hL
          obtain ⟨TA, tc, rfl, htc, hts, _⟩ := own_slice hT
          rw [List.append_nil] at hperm
          have hTl : T.length ≤ 20 := by rw [hperm.length_eq]; exact hl20
          have HY := alg_any j hj TA tc _ T rfl wr wr.heap.size (by omega) (perm_q hperm HQ.out) (perm_6 hperm H6.out) hts
          have HZ := alg_any j hj SA sc _ (F l) rfl wr wo.heap.size (Nat.le_trans (List.length_filter_le _ _) (by omega)) (F_q HQ.out) (F_6 H6.out) (HSS.out.below hbel)
          rw [alg_F (j + 1) (by omega) (by omega), HX1.out, HX2.out] at HZ
          have f1 := q_self _ (algP_q (k := j + 1) HQ.out).1
          have f2 := q_self _ (algP_q (k := j + 1) HQ.out).2
          rw [HX1.out] at f1
          rw [HX2.out] at f2
          have HBF := hide (HB2.out.trans (hbel.mono HB2.out.size))
          have HZ := hide HZ
          clear hL hT hap hbel hpos hs2' hts
          by_cases hj2 : j = 2
          · have e3 : ((1 + (j : Int)) == 3) = true := by subst hj2; rfl
            have HY := hide HY
            generalize qb (algP (j + 1) T).1 = y1 at HY
            generalize qb (algP (j + 1) T).2 = y2 at HY
            clear hperm hj2
            go_wp2_with fail
            refine HY.out.mono ?_
            rintro e w' ⟨rfl, rfl⟩
            go_wp2_with fail
            refine HZ.out.mono ?_
            rintro e w' ⟨rfl, rfl⟩
            go_wp2_with fail
            refine (combineRuns_walk _).mono ?_
            rintro e w' ⟨rfl, hb9⟩
            go_wp2
            go_ret
            exact ⟨rfl, HBF.out.trans (hb9.mono HBF.out.size)⟩
          · have e3 : ((1 + (j : Int)) == 3) = false := by simp; omega
            rw [alg_perm (j + 1) (by omega) (by omega) (by omega) hperm, HX1.out, HX2.out] at HY
            have HY := hide HY
            clear hperm hj2
            go_wp2_with fail
            refine HY.out.mono ?_
            rintro e w' ⟨rfl, rfl⟩
            go_wp2_with fail
            refine HZ.out.mono ?_
            rintro e w' ⟨rfl, rfl⟩
            go_wp2_with fail
            refine (combineRuns_walk _).mono ?_
            rintro e w' ⟨rfl, hb9⟩
            go_wp2
            go_ret
            exact ⟨rfl, HBF.out.trans (hb9.mono HBF.out.size)⟩
end Go.Proofs.Ytlkikaeboeaadaa
