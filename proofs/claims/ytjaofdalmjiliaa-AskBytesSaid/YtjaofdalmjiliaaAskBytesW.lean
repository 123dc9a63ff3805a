/-
  THE WALK OF bailifflaw11.AskBytes: it returns true; only new memory is laid.
-/
import Derived.Test.YtjaofdalmjiliaaAkOrdP
namespace Go.Proofs.Ytjaofdalmjiliaa
open Go.RowKit
set_option linter.unusedVariables false

/-- A value's box. -/
structure BoxV (b : Nat) (v0 v1 : Int) (S : ByteArray) (w : World) : Prop where
  lt : b < w.heap.size
  c0 : w.cell? ⟨b, 0, none⟩ = some (.int .i64 v0)
  c1 : w.cell? ⟨b, 1, none⟩ = some (.int .i64 v1)
  c2 : w.cell? ⟨b, 2, none⟩ = some (.string S)
theorem BoxV.keep {b : Nat} {v0 v1 : Int} {S : ByteArray} {w w' : World} (h : BoxV b v0 v1 S w) (hb : Below w.heap.size w w') : BoxV b v0 v1 S w' :=
  ⟨Nat.lt_of_lt_of_le h.lt hb.size, (hb.cell (p := ⟨b, 0, none⟩) h.lt).trans h.c0, (hb.cell (p := ⟨b, 1, none⟩) h.lt).trans h.c1, (hb.cell (p := ⟨b, 2, none⟩) h.lt).trans h.c2⟩
def CutTo (w : World) (v0 v1 : Int) (w' : World) : Prop := ∃ S : ByteArray, S.size ≤ 80 ∧ BoxV w.heap.size v0 v1 S w' ∧ Below w.heap.size w w'
theorem cutTo_set {w : World} {v0 v1 : Int} {v2 S : ByteArray} {t : TypeId} (hS : S.size ≤ 80) : CutTo w v0 v1 ((w.alloc (.cells #[.int .i64 v0, .int .i64 v1, .string v2] t)).setCell ⟨w.heap.size, 2, none⟩ (.string S)) := by
  have hg := heap_alloc_new w (.cells #[.int .i64 v0, .int .i64 v1, .string v2] t)
  have h := box_third (u := .string S) hg
  obtain ⟨c0, c1, c2⟩ := box_cells h
  exact ⟨S, hS, ⟨by rw [World.size_setCell]; simp, c0, c1, c2⟩, (below_new w _).setCell (Nat.le_refl _) _⟩
theorem cutTo_same {w : World} {v0 v1 : Int} {S : ByteArray} {t : TypeId} (hS : S.size ≤ 80) : CutTo w v0 v1 (w.alloc (.cells #[.int .i64 v0, .int .i64 v1, .string S] t)) := by
  obtain ⟨c0, c1, c2⟩ := three_laid w (.int .i64 v0) (.int .i64 v1) (.string S) t
  exact ⟨S, hS, ⟨by simp, c0, c1, c2⟩, below_new w _⟩
set_option maxHeartbeats 20000000 in
set_option maxRecDepth 20000 in
theorem askBytes_in (a0 : Option Addr) (cap0 : Nat) (l0 : List Gm) (a1 : Option Addr) (cap1 : Nat) (l1 : List Int) (n2 : Int) (x3 : V3) (w : World) (hz0 : l0.length ≤ 140737488355328) (s0 : Req w w.heap.size a0 l0) (hl1 : l1.length ≤ cap1) (hm1 : cap1 ≤ maxLen) (s1 : Sl w w.heap.size a1 (vints .i64 l1)) (lo2 : -9223372036854775808 ≤ n2) (hi2 : n2 ≤ 9223372036854775807) (g3 : VOk x3) :
    Calls Try.prog 4 #[.slice a0 l0.length cap0, .slice a1 l1.length cap1, .int .i64 n2, .agg #[.int .i64 x3.1, .int .i64 x3.2.1, .string x3.2.2]] w (Yes w) := by
  have HR := hide s0
  have HS1 := hide s1
  have hm1' : cap1 ≤ 9223372036854775807 := by unfold maxLen at hm1; omega
  obtain ⟨v0, v1, v2⟩ := x3
  have hb0 := below_new w (.cells #[.int .i64 v0, .int .i64 v1, .string v2] 35)
  have hg0 := heap_alloc_new w (.cells #[.int .i64 v0, .int .i64 v1, .string v2] 35)
  obtain ⟨c0, c1, c2⟩ := three_laid w (.int .i64 v0) (.int .i64 v1) (.string v2) 35
  have f2 : (w.alloc (.cells #[.int .i64 v0, .int .i64 v1, .string v2] 35)).frozen? ⟨w.heap.size, 2, none⟩ = false := frozen_of_row _ w.heap.size 2 _ _ hg0
  have HB0 := hide hb0
  have HG0 := hide hg0
  have HG3 := hide g3
  have hsz : v2.size ≤ 9223372036854775807 := by have := g3.2.2; unfold maxLen at this; simp only at this; omega
  clear s0 s1 hm1 hb0 hg0 g3
  go_enter Try.func4, Try.ntmps4
  go_upto_region 1 with (fail)
  go_cut [22] from 16 to 23 (fun _ w' => CutTo w v0 v1 w')
  case first =>
    by_cases h80 : v2.size ≤ 80
    · have d80 : (v2.size : Int) ≤ 80 := by omega
      have HC := hide (cutTo_same (w := w) (v0 := v0) (v1 := v1) (t := 35) h80)
      go_wp2
      go_meet
      exact HC.out
    · have d80 : ¬ (v2.size : Int) ≤ 80 := by omega
      have HC := hide (cutTo_same (w := w) (v0 := v0) (v1 := v1) (t := 35) (S := v2.extract 0 80) (by rw [ByteArray.size_extract]; omega))
      go_wp2
      go_meet
      exact HC.out
  case rest =>
    obtain ⟨S, hS, hbx, hb⟩ := hcut
    have BX := hide hbx
    have HB := hide hb
    clear hbx hb c0 c1 c2 f2 HB0 HG0
    have HSV : Hid (SmallV (v0, v1, S)) := hide ⟨HG3.out.1, HG3.out.2.1, by show S.size ≤ 1000000; omega⟩
    clear HG3
    obtain ⟨w0, hw0⟩ : ∃ w0, w0 = wc := ⟨_, rfl⟩
    subst hw0
    have HF := hide (few_any a0 cap0 l0.length l0 rfl w0 hz0 (HR.out.on HB.out))
    go_wp2_with fail
    refine HF.out.mono ?_
    rintro e w1 ⟨b, rfl, hfew, hb1⟩
    have BX1 := hide (BX.out.keep hb1)
    have HB1 := hide (below_on HB.out hb1)
    have HFEW := hide hfew
    clear HF hb1 hfew BX HB w0
    cases b
    · go_wp2_with fail
      refine (askRuns_walk w1).mono ?_
      rintro e wz ⟨rfl, hbz⟩
      have HBZ := hide (below_on HB1.out hbz)
      clear hbz
      go_wp2
      go_ret
      exact ⟨rfl, HBZ.out⟩
    have HL := hide (HFEW.out rfl)
    clear HFEW
    have HRT := hide (right_any a0 cap0 l0.length l0 rfl w1 (by unfold maxLen; omega) (HR.out.on HB1.out))
    go_wp2_with fail
    refine HRT.out.mono ?_
    rintro e w2 ⟨rfl, hb2⟩
    have BX2 := hide (BX1.out.keep hb2)
    have HB2 := hide (below_on HB1.out hb2)
    clear HRT hb2 HB1 BX1
    by_cases hr : rightG (gvs l0) = 0
    case neg =>
      have hne : (rightG (gvs l0) != 0) = true := bne_iff_ne.2 hr
      clear hr
      generalize rightG (gvs l0) = rg at *
      go_wp2_with fail
      refine (askRuns_walk w2).mono ?_
      rintro e wz ⟨rfl, hbz⟩
      have HBZ := hide (below_on HB2.out hbz)
      clear hbz
      go_wp2
      go_ret
      exact ⟨rfl, HBZ.out⟩
    have HRI := hide hr
    rw [hr]
    clear hr
    by_cases h60 : 60 ≤ l0.length
    · have d60 : decide ((l0.length : Int) ≥ 60) = true := decide_eq_true (by omega)
      go_wp2_with fail
      refine (askRuns_walk w2).mono ?_
      rintro e wz ⟨rfl, hbz⟩
      have HBZ := hide (below_on HB2.out hbz)
      clear hbz
      go_wp2
      go_ret
      exact ⟨rfl, HBZ.out⟩
    have d60 : decide ((l0.length : Int) ≥ 60) = false := decide_eq_false (by omega)
    have hl60 : l0.length ≤ 59 := by omega
    obtain ⟨j0, hi, hz0', hz1, hz2⟩ := info_parts infoG
    have Gi := hide hi
    have Gz0 := hide hz0'
    have Gz1 := hide hz1
    have Gz2 := hide hz2
    clear hi hz0' hz1 hz2 h60 hz0
    have hown0 : (w2.alloc (.cells #[] 40)).ownsRow w2.heap.size 40 3 (.slice (some ⟨w2.heap.size, 0, none⟩) 0 0) 0 [] := World.ownsRow_made w2 #[] 0 (Nat.le_refl _) (by simp [maxLen]) rfl
    have hb0 : Below w2.heap.size w2 (w2.alloc (.cells #[] 40)) := below_new w2 _
    have HV : Hid ((cellsG l0).length = l0.length * 3) := hide (cellsG_len l0)
    have HM1 := hide (one_cellsG l0)
    have HSR := hide (((HR.out.on HB2.out).1).below hb0)
    have H0 := hide hown0
    have HB0 := hide hb0
    clear hown0 hb0
    go_wp2_with (at_builtin; refine wpList_app _ rfl (.tmp 38) (.tmp 39) 32 rfl w2.heap.size 40 j0 (.agg #[.int .i64 0, .string ByteArray.empty, .slice none 0 0]) 3 48 Try.underlying32 Gi.out Gz0.out Gz1.out Gz2.out rfl (by decide) (.slice (some ⟨w2.heap.size, 0, none⟩) 0 0) 0 [] rfl H0.out w2.heap.size a0 l0.length cap0 (cellsG l0) rfl HV.out HSR.out HM1.out (by unfold maxLen; omega) (by omega) (by simp) ?_; intro v3 w3 hown3 hg3 hat3; have HB3 := hide (own_below H0.out HB0.out hg3 (Nat.le_refl _) (by simp)); rw [Nat.zero_add, List.nil_append] at hown3; have HL0 := hide hown3; clear hown3 hg3 hat3)
    clear HSR H0 HB0 HV HM1
    go_loopg [9, 10, 11] l0.length (fun g v t i wx => TurnRel l0 w2 g t v i wx)
    case atStart => exact ⟨[], l0, 0, rfl, rfl, by omega, World.ownsRow_nil _ _ _ _, HL0.out, .inl rfl, List.Perm.refl _, HB3.out⟩
    case round =>
      obtain ⟨T, L, i1, rfl, rfl, hi1, hT, hL, hap, hperm, hbel⟩ := hrel
      clear HL0 HB3
      by_cases hpos : 0 < L.length
      · obtain ⟨g, cv, rfl, hlc, hcm, hg0, hg1⟩ := own_some hL hpos
        have hcm' : cv ≤ 9223372036854775807 := by unfold maxLen at hcm; omega
        have HT := hide hT
        have HL2 := hide hL
        have HAP := hide hap
        have HP := hide hperm
        have HBE2 := hide hbel
        have HORD := hide ((HS1.out.below HB2.out).below (hbel.mono HB2.out.size))
        clear hT hL hap hperm hbel hcm
        go_upto_if 49 with (fail)
        go_cut [12] from 46 to 57 (KMid wr L.length)
        case first =>
          by_cases hin : i1 < l1.length
          · obtain ⟨b2, off2, rfl, _, hcell⟩ := HORD.out.int hin
            obtain ⟨K, hke⟩ : ∃ K : Nat, within l1[i1] 0 ((L.length : Int) - 1) = (K : Int) := ⟨_, (Int.toNat_of_nonneg (within_lo l1[i1] 0 ((L.length : Int) - 1) (by omega))).symm⟩
            have hK := within_any l1[i1] 0 ((L.length : Int) - 1) wr (by omega) (by omega) (by omega)
            have hkl : K < L.length := by have := within_hi l1[i1] 0 ((L.length : Int) - 1) (by omega); omega
            rw [hke] at hK
            have HK := hide hK
            clear hK hke
            generalize l1[i1] = z at hcell HK
            go_wp2_with fail
            refine HK.out.mono ?_
            rintro e w' ⟨rfl, rfl⟩
            go_wp2
            go_meet
            exact ⟨K, hkl, rfl, rfl⟩
          · go_wp2
            go_meet
            exact ⟨0, hpos, rfl, rfl⟩
        case rest =>
          obtain ⟨K, hK, rfl, rfl⟩ := hcut
          clear hpos HORD
          have hsL := own_sl HL2.out
          obtain ⟨b', off', hbe, _, x0, x1, x2⟩ := Sl.three gcell hsL hK
          injection hbe with hbe
          injection hbe with hbe1 hbe2
          subst hbe1 hbe2
          rw [Nat.zero_add] at x0 x1 x2
          have hstep := cellsG_append T [L[K]]
          have HPN := hide (perm_at T L l0 K hK HP.out)
          have hTl : T.length + L.length ≤ 59 := by have := HP.out.length_eq; rw [List.length_append] at this; omega
          generalize L[K] = x at *
          obtain ⟨xc, xn, xa, xcap, bag⟩ := x
          simp only [gcell] at x0 x1 x2
          have hT2 := HT.out.alloc (.cells #[.int .i64 xc, .string xn, .slice xa bag.length xcap] 40)
          have hc2 := laid_one wc ⟨xc, xn, xa, xcap, bag⟩
          have hb2 := HBE2.out.alloc HBE2.out.size (.cells #[.int .i64 xc, .string xn, .slice xa bag.length xcap] 40)
          have HSTEP := hide hstep
          have HT2 := hide hT2
          have HC2 := hide hc2
          have HBB2 := hide hb2
          clear hsL hstep hT2 hc2 hb2
          go_upto_region 13 with (at_builtin; refine wpList_app _ rfl (.tmp 58) (.tmp 63) 32 rfl w2.heap.size 40 j0 (.agg #[.int .i64 0, .string ByteArray.empty, .slice none 0 0]) 3 48 Try.underlying32 Gi.out Gz0.out Gz1.out Gz2.out rfl (by decide) _ T.length _ rfl HT2.out _ (some ⟨wc.heap.size, 0, none⟩) 1 1 (cellsG [⟨xc, xn, xa, xcap, bag⟩]) rfl rfl HC2.out (one_cellsG _) (by unfold maxLen; omega) (by omega) HBB2.out.size ?_; intro v3 w3 hown3 hg3 hat3; have hb3 : Below w2.heap.size w2 w3 := own_below HT2.out HBB2.out hg3 (Nat.le_refl _) HBB2.out.size; rw [← HSTEP.out] at hown3)
          have hLk : w3.ownsRow w2.heap.size 40 3 (.slice (some ⟨g, 0, none⟩) L.length cv) L.length (cellsG L) := World.ownsRow.kept (HL2.out.alloc (.cells #[.int .i64 xc, .string xn, .slice xa bag.length xcap] 40)) hg3 HAP.out.back
          have hT3 := hide hown3
          have HB4 := hide hb3
          have hlt3 : g < w3.heap.size := (own_lt hLk g rfl).2
          have hsL3 : Sl w3 w3.heap.size (some ⟨g, 0, none⟩) (cellsG L) := own_sl hLk
          clear HT HL2 HC2 HT2 HBB2 hown3 hg3 hat3 hb3 x0 x1 x2 hLk HBE2 hg1
          have hz3 := HB4.out.size
          have hown0 : (w3.alloc (.cells #[] 40)).ownsRow w3.heap.size 40 3 (.slice (some ⟨w3.heap.size, 0, none⟩) 0 0) 0 [] := World.ownsRow_made w3 #[] 0 (Nat.le_refl _) (by simp [maxLen]) rfl
          have hb0 : Below w3.heap.size w3 (w3.alloc (.cells #[] 40)) := (Below.refl _ _).alloc (Nat.le_refl _) _
          have HV1 : Hid ((cellsG (L.take K)).length = K * 3) := hide (by rw [cellsG_len, List.length_take, Nat.min_eq_left (by omega)])
          have HV2 : Hid ((cellsG (L.drop (K + 1))).length = (L.length - (K + 1)) * 3) := hide (by rw [cellsG_len, List.length_drop])
          have HS1' : Hid (Sl w3 w3.heap.size (some ⟨g, 0, none⟩) (cellsG (L.take K))) := hide (by rw [← cellsG_take]; exact hsL3.take (K * 3))
          have HS2' : Hid (Sl w3 w3.heap.size (if cv = K + 1 then some ⟨g, 0, none⟩ else some ⟨g, (K + 1) * 3, none⟩) (cellsG (L.drop (K + 1)))) := hide (by
            by_cases hc : cv = K + 1
            · rw [List.drop_of_length_le (by omega)]; exact Sl.nil
            · rw [if_neg hc]
              have := hsL3.drop ((K + 1) * 3)
              rw [Nat.zero_add, cellsG_drop] at this
              exact this)
          have HO1 := hide (one_cellsG (L.take K))
          have HO2 := hide (one_cellsG (L.drop (K + 1)))
          have Hq1 : Hid (0 + K ≤ maxLen) := hide (by unfold maxLen; omega)
          have Hq2 : Hid ((0 + K) * 48 ≤ 140737488355328) := hide (by omega)
          have Hk1 : Hid (K + (L.length - (K + 1)) ≤ maxLen) := hide (by unfold maxLen; omega)
          have Hk2 : Hid ((K + (L.length - (K + 1))) * 48 ≤ 140737488355328) := hide (by omega)
          have H0 := hide hown0
          have HBW := hide hb0
          have hk1 : (0 : Int) ≤ (K : Int) := by omega
          have hk2 : (K : Int) ≤ (cv : Int) := by omega
          have hk3 : (K : Int) + 1 ≤ (L.length : Int) := by omega
          have hk4 : IntKind.i64.wrap ((K : Int) + 1) = (K : Int) + 1 := IntWalk.i64_in _ (by omega)
          have hk5 : (0 : Int) ≤ (K : Int) + 1 := by omega
          have hk6 : ((K : Int) + 1).toNat = K + 1 := by omega
          clear hown0 hb0 hsL3
          go_region_held3 (fun w' => Below w3.heap.size w3 w')
              (first | assumption | exact (Below.refl _ _).drew | exact hcA | exact hcB | (exact Below.alloc (by assumption) (Below.size (by assumption)) _))
              ((first
                | (refine step_app _ rfl (.tmp 65) (.tmp 68) 32 rfl w3.heap.size 40 j0 (.agg #[.int .i64 0, .string ByteArray.empty, .slice none 0 0]) 3 48 Try.underlying32 Gi.out Gz0.out Gz1.out Gz2.out rfl (by decide) (.slice (some ⟨w3.heap.size, 0, none⟩) 0 0) 0 [] rfl (own_drawn H0.out ⟨1, rfl⟩) w3.heap.size (some ⟨g, 0, none⟩) K cv (cellsG (L.take K)) rfl HV1.out (HS1'.out.below (by assumption)) HO1.out Hq1.out Hq2.out (by simp) ?_; intro v4 w4 hownA hgA hatA; have hcA : Below w3.heap.size w3 w4 := own_below (own_drawn H0.out ⟨1, rfl⟩) HBW.out.drew hgA (Nat.le_refl _) (by simp); rw [Nat.zero_add, List.nil_append] at hownA)
                | (refine step_app _ rfl (.tmp 69) (.tmp 73) 32 rfl w3.heap.size 40 j0 (.agg #[.int .i64 0, .string ByteArray.empty, .slice none 0 0]) 3 48 Try.underlying32 Gi.out Gz0.out Gz1.out Gz2.out rfl (by decide) v4 K (cellsG (L.take K)) rfl hownA w3.heap.size (if cv = K + 1 then some ⟨g, 0, none⟩ else some ⟨g, (K + 1) * 3, none⟩) (L.length - (K + 1)) (cv - (K + 1)) (cellsG (L.drop (K + 1))) rfl HV2.out (HS2'.out.below hcA) HO2.out Hk1.out Hk2.out hcA.size ?_; intro v5 w5 hownB hgB hatB; have hcB : Below w3.heap.size w3 w5 := own_below hownA hcA hgB (Nat.le_refl _) hcA.size)))
          have hgB' : World.grownBy w4 w5 (Value.ownBlock v4) := hgB
          have h5 : w4.ownsRow w2.heap.size 40 3 v3 (T.length + 1) (cellsG (T ++ [⟨xc, xn, xa, xcap, bag⟩])) := own_keep_new hT3.out (.cells #[] 40) 1 hgA
          have hTn : w5.ownsRow w2.heap.size 40 3 v3 (T ++ [(⟨xc, xn, xa, xcap, bag⟩ : Gm)]).length (cellsG (T ++ [(⟨xc, xn, xa, xcap, bag⟩ : Gm)])) := by
            rw [show (T ++ [(⟨xc, xn, xa, xcap, bag⟩ : Gm)]).length = T.length + 1 by simp]
            exact World.ownsRow.kept h5 hgB' (own_apart hT3.out hownA (Nat.le_refl _))
          have hapn : Apart v3 v5 := own_apart hT3.out hownB (Nat.le_refl _)
          have hlenn : (L.take K ++ L.drop (K + 1)).length = K + (L.length - (K + 1)) := by rw [List.length_append, List.length_take, List.length_drop]; omega
          have hLn : w5.ownsRow w2.heap.size 40 3 v5 (L.take K ++ L.drop (K + 1)).length (cellsG (L.take K ++ L.drop (K + 1))) := by
            rw [hlenn, cellsG_append]; exact own_base hownB hz3
          have REL : Hid (TurnRel l0 w2 (L.length - 1) v3 v5 (.int .i64 ((i1 : Int) + 1)) w5) := hide ⟨T ++ [(⟨xc, xn, xa, xcap, bag⟩ : Gm)], L.take K ++ L.drop (K + 1), i1 + 1, by omega, by go_num, by omega, hTn, hLn, hapn, HPN.out, HB4.out.trans (hcB.mono hz3)⟩
          clear hgB' h5 hTn hapn hlenn hLn hgB hgA hownA hownB hcA hcB hk1 hk2 hk3 hk4 hk5 hk6 hatA hatB
          go_wp2
          all_goals
            go_roundg (L.length - 1)
            case measure => omega
            case rel => exact REL.out
      · obtain rfl : L = [] := List.eq_nil_of_length_eq_zero (by omega)
        rw [List.append_nil] at hperm
        obtain ⟨LA, lc, rfl, -, -, -⟩ := own_slice hL
        obtain ⟨TA, tc, rfl, -, -, -⟩ := own_slice hT
        have hBW : Below w.heap.size w wr := HB2.out.trans (hbel.mono HB2.out.size)
        have HB3 := hide hBW
        have BX3 := hide (BX2.out.keep hbel)
        have HPM := hide hperm
        have HRT : Hid (Req wr wr.heap.size TA T) := hide ⟨own_sl hT, fun y hy => (HR.out.2 y (hperm.mem_iff.1 hy)).on hBW⟩
        have HTR : Hid (rightG (gvs T) = 0) := hide (right_perm HRI.out (hperm.map Gm.gv))
        have HP1 := hide (askput_any a0 cap0 l0.length l0 rfl wr HRI.out (HR.out.on hBW))
        clear hL hT hap hperm hbel hBW BX2 HB2 hpos hi1
        go_wp2_with fail
        refine HP1.out.mono ?_
        rintro e w4 ⟨t1, hu1, hp1, h⟩
        obtain ⟨A4, c4, rfl, hs4, hown4, hb4⟩ := bytes_slice h
        have HB4 := hide (below_on HB3.out hb4)
        have BX4 := hide (BX3.out.keep hb4)
        have HS4 := hide hs4
        have HT1 := hide (And.intro hu1 hp1)
        have HP2 := hide (askput_any TA tc T.length T rfl w4 HTR.out (HRT.out.on hb4))
        clear HP1 h hs4 hown4 hb4 hu1 hp1 HB3 BX3 HRT
        go_wp2_with fail
        refine HP2.out.mono ?_
        rintro e w5 ⟨t2, hu2, hp2, h⟩
        obtain ⟨A5, c5, rfl, hs5, hown5, hb5⟩ := bytes_slice h
        have ht2 : t2 = t1 := put_turned HRI.out HPM.out HT1.out.1 hu2 HT1.out.2 hp2
        subst ht2
        have hal : (askP (gvs t2)).length ≤ 100000 := askP_short (fun y hy => fits_of HRI.out (gvs_ok HR.out (l' := l0) rfl) y ((HT1.out.2.map Gm.gv).mem_iff.1 hy)) (by rw [gvs_len, HT1.out.2.length_eq]; omega)
        have has := askP_some (gvs t2)
        obtain ⟨P, hP⟩ : ∃ P, P = askP (gvs t2) := ⟨_, rfl⟩
        rw [← hP] at hal has hs5 HS4 ⊢
        have HPQ := hide hP
        have HB5 := hide (below_on HB4.out hb5)
        have BX5 := hide (BX4.out.keep hb5)
        have HSM := same_any A4 A5 c4 c5 P.length P.length P P rfl rfl w5 w5.heap.size (by omega) (by omega) (HS4.out.on hb5) hs5
        rw [sameB_refl] at HSM
        have HSM := hide HSM
        clear HP2 h hs5 hown5 hb5 hu2 hp2 HB4 BX4 hP HS4 HTR HPM
        go_wp2_with fail
        refine HSM.out.mono ?_
        rintro e wy ⟨rfl, ny, hy⟩
        have hby : Below w5.heap.size w5 wy := below_drawn (Below.refl _ _) ⟨ny, hy⟩
        have HB6 := hide (below_on HB5.out hby)
        have BX6 := hide (BX5.out.keep hby)
        clear HSM hby hy HB5 BX5
        have HP3 := hide (askput_any a0 cap0 l0.length l0 rfl wy HRI.out (HR.out.on HB6.out))
        go_wp2_with fail
        refine HP3.out.mono ?_
        rintro e w7 ⟨t3, hu3, hp3, h⟩
        obtain ⟨A7, c7, rfl, hs7, hown7, hb7⟩ := bytes_slice h
        have ht3 : t3 = t2 := sorted_unique HRI.out hu3 HT1.out.1 hp3 HT1.out.2
        subst ht3
        rw [← HPQ.out]
        have hpl : ((P.length : Int) == 0) = false := beq_eq_false_iff_ne.2 (fun h => has (List.eq_nil_of_length_eq_zero (by omega)))
        have HB7 := hide (below_on HB6.out hb7)
        have BX7 := hide (BX6.out.keep hb7)
        clear HP3 h hs7 hown7 hb7 hu3 hp3 HB6 BX6 has
        have HAS := hide (asks_any a0 cap0 l0.length l0 rfl w7 (by omega) (bags_of rfl (few_bags HL.out)) (HR.out.on HB7.out))
        go_wp2_with fail
        refine HAS.out.mono ?_
        rintro e w8 ⟨v, o, rfl, hgo, hqo, hb8⟩
        have HB8 := hide (below_on HB7.out hb8)
        have BX8 := hide (BX7.out.keep hb8)
        have hol : o.length = l0.length := by rw [← gvs_len o, hgo, gvs_len]
        obtain ⟨A8, c8, rfl, -, -, -⟩ := own_slice hqo.1
        rw [hol]
        have HOL := hide hol
        have HGO := hide hgo
        have hqo' := hqo.less (B' := w.heap.size + 1) BX7.out.lt
        rw [hol] at hqo'
        have HQO := hide hqo'
        clear HAS hgo hqo hqo' hb8 hol HB7 BX7 hpl
        go_upto_if 91 with (fail)
        go_cut [14] from 91 to 120 (fun _ w' => Below w.heap.size w w')
        case first => as_aux_lemma =>
          clear HSM HPQ HT1
          by_cases hpos : 0 < l0.length
          · obtain ⟨K, hke⟩ : ∃ K : Nat, within n2 0 ((l0.length : Int) - 1) = (K : Int) := ⟨_, (Int.toNat_of_nonneg (within_lo n2 0 ((l0.length : Int) - 1) (by omega))).symm⟩
            have hK := within_any n2 0 ((l0.length : Int) - 1) w8 (by omega) (by omega) (by omega)
            have hkl : K < o.length := by have := within_hi n2 0 ((l0.length : Int) - 1) (by omega); rw [HOL.out]; omega
            rw [hke] at hK
            have HK := hide hK
            clear hK hke
            obtain ⟨g, rfl, -, hg0, hg1, x0, x1, x2, hfz⟩ := HQO.out.block (i := K) hkl
            have hbl : o[K].bag.length ≤ 1000000 := bags_of HGO.out (few_bags HL.out) _ (List.getElem_mem _)
            have hnew : NewG w8 (w.heap.size + 1) o[K] := HQO.out.2 _ (List.getElem_mem _)
            have HSV8 := hide (show Sl w8 w8.heap.size o[K].at_ (cellsV o[K].bag) from own_sl hnew)
            have HMB := hide (@more_bag l0 o K (v0, v1, S) · · HGO.out (gvs_ok HR.out rfl) hkl ⟨HSV.out.1, HSV.out.2.1, by show S.size ≤ maxLen; unfold maxLen; omega⟩)
            have HBS := hide (fun (w5 : World) (A5 : Option Addr) (c5 : Nat) => @bag_stored w w8 w5 w.heap.size g l0.length c8 K o (v0, v1, S) A5 c5 _ (HQO.out.less (by omega)) HB8.out.size HB8.out hkl rfl)
            have hkl' : K < l0.length := by rw [← HOL.out]; exact hkl
            obtain ⟨i0, hi, hz0, hz1, hz2⟩ := info_parts infoV
            have Hi := hide hi
            have Hz0 := hide hz0
            have Hz1 := hide hz1
            have Hz2 := hide hz2
            clear hi hz0 hz1 hz2 x0 x1 hnew
            generalize o[K].bag = bag at *
            generalize o[K].at_ = ba at *
            generalize o[K].cap = bc at *
            have HBX : Hid (∀ w' : World, Below w8.heap.size w8 w' → w'.cell? ⟨w.heap.size, 0, none⟩ = some (.int .i64 v0) ∧ w'.cell? ⟨w.heap.size, 1, none⟩ = some (.int .i64 v1) ∧ w'.cell? ⟨w.heap.size, 2, none⟩ = some (.string S)) := hide (fun w' hb => have h := BX8.out.keep hb; ⟨h.c0, h.c1, h.c2⟩)
            have HBXS : Hid (∀ (w' : World) (u : Value), Below w8.heap.size w8 w' → (w'.setCell ⟨g, K * 3 + 2, none⟩ u).cell? ⟨w.heap.size, 0, none⟩ = some (.int .i64 v0) ∧ (w'.setCell ⟨g, K * 3 + 2, none⟩ u).cell? ⟨w.heap.size, 1, none⟩ = some (.int .i64 v1) ∧ (w'.setCell ⟨g, K * 3 + 2, none⟩ u).cell? ⟨w.heap.size, 2, none⟩ = some (.string S)) := hide (fun w' u hb => by
              have h := BX8.out.keep hb
              refine ⟨?_, ?_, ?_⟩
              · rw [World.cell?_setCell_far _ _ _ _ (by show g ≠ w.heap.size; omega)]; exact h.c0
              · rw [World.cell?_setCell_far _ _ _ _ (by show g ≠ w.heap.size; omega)]; exact h.c1
              · rw [World.cell?_setCell_far _ _ _ _ (by show g ≠ w.heap.size; omega)]; exact h.c2)
            have HB0 : Hid (Below w8.heap.size w8 w8.drew) := hide (Below.refl _ _).drew
            have HBE : Hid (Below w8.heap.size w8 (w8.drew.alloc oE)) := hide (HB0.out.alloc (Nat.le_refl _) _)
            have HBV : Hid (Below w8.heap.size w8 (w8.drew.alloc (oV v0 v1 S))) := hide (HB0.out.alloc (Nat.le_refl _) _)
            have HBEV : Hid (Below w8.heap.size w8 ((w8.drew.alloc oE).alloc (oV v0 v1 S))) := hide (HBE.out.alloc HBE.out.size _)
            have HBVE : Hid (Below w8.heap.size w8 ((w8.drew.alloc (oV v0 v1 S)).alloc oE)) := hide (HBV.out.alloc HBV.out.size _)
            have y0 : (w8.alloc (.cells #[] 35)).cell? ⟨g, K * 3 + 2, none⟩ = some (.slice ba bag.length bc) := ((below_new w8 _).cell (p := ⟨g, K * 3 + 2, none⟩) hg1).trans x2
            have y1 : (w8.alloc (.cells #[.int .i64 v0, .int .i64 v1, .string S] 35)).cell? ⟨g, K * 3 + 2, none⟩ = some (.slice ba bag.length bc) := ((below_new w8 _).cell (p := ⟨g, K * 3 + 2, none⟩) hg1).trans x2
            have y2 : ((w8.alloc (.cells #[] 35)).alloc (.cells #[.int .i64 v0, .int .i64 v1, .string S] 35)).cell? ⟨g, K * 3 + 2, none⟩ = some (.slice ba bag.length bc) := (HBEV.out.cell (p := ⟨g, K * 3 + 2, none⟩) hg1).trans x2
            have y3 : ((w8.alloc (.cells #[.int .i64 v0, .int .i64 v1, .string S] 35)).alloc (.cells #[] 35)).cell? ⟨g, K * 3 + 2, none⟩ = some (.slice ba bag.length bc) := (HBVE.out.cell (p := ⟨g, K * 3 + 2, none⟩) hg1).trans x2
            have HX2 := hide x2
            have HF8 : Hid (∀ w' : World, Below w8.heap.size w8 w' → w'.cell? ⟨g, K * 3 + 2, none⟩ = some (.slice ba bag.length bc) ∧ w'.frozen? ⟨g, K * 3 + 2, none⟩ = false) := hide (fun w' hb => ⟨(hb.cell (p := ⟨g, K * 3 + 2, none⟩) hg1).trans HX2.out, (World.frozen?_of_block (hb.block g hg1)).trans (hfz _)⟩)
            have HVL : Hid ((cellsV bag).length = bag.length * 3) := hide (cellsV_len bag)
            have HO1 := hide (one_cellsV bag)
            have HO2 := hide (one_cellsV [(v0, v1, S)])
            have Hq1 : Hid (0 + bag.length ≤ maxLen) := hide (by unfold maxLen; omega)
            have Hq2 : Hid ((0 + bag.length) * 32 ≤ 140737488355328) := hide (by omega)
            have Hk1 : Hid (bag.length + 1 ≤ maxLen) := hide (by unfold maxLen; omega)
            have Hk2 : Hid ((bag.length + 1) * 32 ≤ 140737488355328) := hide (by omega)
            have HME := hide (madeE w8.drew)
            have HMVE := hide (madeVE w8.drew v0 v1 S)
            have HMEV := hide ((madeE w8.drew).alloc (oV v0 v1 S))
            clear hfz hbl
            go_wp2_with fail
            refine HK.out.mono ?_
            rintro e w' ⟨rfl, rfl⟩
            go_wp2
            go_cut [14] from 97 to 110 (fun v w' => v = .int .i64 K ∧ ∃ A5 c5, NewReq w' w.heap.size (.slice (some ⟨g, 0, none⟩) l0.length c8) (o.set K ⟨o[K].cat, o[K].name, A5, c5, bag ++ [(v0, v1, S)]⟩) ∧ Below w.heap.size w w')
            case first =>
              obtain ⟨b00, b01, b02⟩ := HBX.out w8 (Below.refl _ _)
              obtain ⟨b10, b11, b12⟩ := HBX.out (w8.alloc (.cells #[] 35)) (below_new w8 _)
              go_region_law
                ((first
                  | (refine step_app _ rfl (.tmp 99) (.tmp 104) 22 rfl w8.heap.size 35 i0 (.agg #[.int .i64 0, .int .i64 0, .string ByteArray.empty]) 3 32 Try.underlying22 Hi.out Hz0.out Hz1.out Hz2.out rfl (by decide) (.slice (some ⟨w8.heap.size, 0, none⟩) 0 0) 0 [] rfl HME.out w8.heap.size ba bag.length bc (cellsV bag) rfl HVL.out (HSV8.out.below HBE.out) HO1.out Hq1.out Hq2.out HBE.out.size ?_; intro v4 w4 hownA hgA hatA; have hcA : Below w8.heap.size w8 w4 := own_below HME.out HBE.out hgA (Nat.le_refl _) HBE.out.size; rw [Nat.zero_add, List.nil_append] at hownA; obtain ⟨b40, b41, b42⟩ := HBX.out w4 hcA; have hSA := valLast w4 v0 v1 S)
                  | (refine step_app _ rfl (.tmp 99) (.tmp 104) 22 rfl w8.heap.size 35 i0 (.agg #[.int .i64 0, .int .i64 0, .string ByteArray.empty]) 3 32 Try.underlying22 Hi.out Hz0.out Hz1.out Hz2.out rfl (by decide) (.slice (some ⟨w8.heap.size + 1, 0, none⟩) 0 0) 0 [] rfl HMVE.out w8.heap.size ba bag.length bc (cellsV bag) rfl HVL.out (HSV8.out.below HBVE.out) HO1.out Hq1.out Hq2.out HBVE.out.size ?_; intro v4 w4 hownA hgA hatA; have hcA : Below w8.heap.size w8 w4 := own_below HMVE.out HBVE.out hgA (Nat.le_refl _) HBVE.out.size; rw [Nat.zero_add, List.nil_append] at hownA; obtain ⟨b40, b41, b42⟩ := HBX.out w4 hcA; have hSA := valVE (w := w8.drew) (v0 := v0) (v1 := v1) (S := S) hgA)
                  | (refine step_app _ rfl (.tmp 99) (.tmp 104) 22 rfl w8.heap.size 35 i0 (.agg #[.int .i64 0, .int .i64 0, .string ByteArray.empty]) 3 32 Try.underlying22 Hi.out Hz0.out Hz1.out Hz2.out rfl (by decide) (.slice (some ⟨w8.heap.size, 0, none⟩) 0 0) 0 [] rfl HMEV.out w8.heap.size ba bag.length bc (cellsV bag) rfl HVL.out (HSV8.out.below HBEV.out) HO1.out Hq1.out Hq2.out HBEV.out.size ?_; intro v4 w4 hownA hgA hatA; have hcA : Below w8.heap.size w8 w4 := own_below HMEV.out HBEV.out hgA (Nat.le_refl _) HBEV.out.size; rw [Nat.zero_add, List.nil_append] at hownA; obtain ⟨b40, b41, b42⟩ := HBX.out w4 hcA; have hSA := valEV (w := w8.drew) (v0 := v0) (v1 := v1) (S := S) hgA)
                  | (refine step_app _ rfl (.tmp 105) (.tmp 107) 22 rfl w8.heap.size 35 i0 (.agg #[.int .i64 0, .int .i64 0, .string ByteArray.empty]) 3 32 Try.underlying22 Hi.out Hz0.out Hz1.out Hz2.out rfl (by decide) v4 bag.length (cellsV bag) rfl hownA _ _ 1 1 (cellsV [(v0, v1, S)]) rfl rfl hSA HO2.out Hk1.out Hk2.out hcA.size ?_; intro v5 w5 hownB hgB hatB; have hcB : Below w8.heap.size w8 w5 := own_below hownA hcA hgB (Nat.le_refl _) hcA.size; obtain ⟨A5, c5, rfl, -, -, -⟩ := own_slice hownB; obtain ⟨z0, z1⟩ := HF8.out w5 hcB)
                  | (refine step_app _ rfl (.tmp 105) (.tmp 107) 22 rfl w8.heap.size 35 i0 (.agg #[.int .i64 0, .int .i64 0, .string ByteArray.empty]) 3 32 Try.underlying22 Hi.out Hz0.out Hz1.out Hz2.out rfl (by decide) v4 bag.length (cellsV bag) rfl (hownA.alloc (oV v0 v1 S)) _ _ 1 1 (cellsV [(v0, v1, S)]) rfl rfl hSA HO2.out Hk1.out Hk2.out (hcA.alloc hcA.size _).size ?_; intro v5 w5 hownB hgB hatB; have hcB : Below w8.heap.size w8 w5 := own_below (hownA.alloc (oV v0 v1 S)) (hcA.alloc hcA.size _) hgB (Nat.le_refl _) (hcA.alloc hcA.size _).size; obtain ⟨A5, c5, rfl, -, -, -⟩ := own_slice hownB; obtain ⟨z0, z1⟩ := HF8.out w5 hcB)))
              all_goals
                go_wp2
                go_meet
                exact ⟨rfl, _, _, HBS.out _ _ _ hcB hownB⟩
            case rest =>
              obtain ⟨rfl, A5, c5, hq, hb⟩ := hcut
              have hf := HMB.out A5 c5
              obtain ⟨M, hM⟩ : ∃ M, M = o.set K ⟨o[K].cat, o[K].name, A5, c5, bag ++ [(v0, v1, S)]⟩ := ⟨_, rfl⟩
              have HMl : Hid (M.length = l0.length) := hide (by rw [hM, List.length_set, HOL.out])
              rw [← hM] at hq hf
              have HMK := hide hf
              have HB12 := hide hb
              have HRQ := hide (hq.reqAt hf.1)
              clear hM hf hb hq HMB HBS HBX HBXS HB0 HBE HBV HBEV HBVE HME HMVE HMEV HF8 HVL HO1 HO2 Hq1 Hq2 Hk1 Hk2 HSV8 HX2 Hi Hz0 Hz1 Hz2 y0 y1 y2 y3 x2 HQO HGO HOL hkl
              obtain ⟨w12, hw12⟩ : ∃ w12, w12 = wc := ⟨_, rfl⟩
              subst hw12
              have HRM := hide (right_any (some ⟨g, 0, none⟩) c8 l0.length M HMl.out w12 (by have := HMl.out; unfold maxLen; omega) HRQ.out)
              go_wp2_with fail
              refine HRM.out.mono ?_
              rintro e w13 ⟨rfl, hb13⟩
              have HB13 := hide (below_on HB12.out hb13)
              have HRQ3 := hide (HRQ.out.on hb13)
              clear HRM HRQ hb13 HB12
              by_cases hrm : rightG (gvs M) = 0
              case neg =>
                have hne : (rightG (gvs M) == 0) = false := beq_eq_false_iff_ne.2 hrm
                clear HMK hrm
                generalize rightG (gvs M) = rg at *
                go_wp2
                go_meet
                exact HB13.out
              have HRMI := hide hrm
              rw [hrm]
              have HP4 := hide (askput_any (some ⟨g, 0, none⟩) c8 l0.length M HMl.out w13 hrm HRQ3.out)
              clear hrm
              go_wp2_with fail
              refine HP4.out.mono ?_
              rintro e w14 ⟨t4, hu4, hp4, h⟩
              obtain ⟨A14, c14, rfl, hs14, hown14, hb14⟩ := bytes_slice h
              have HS14 := hide hs14
              have HP44 := hide hp4
              have HB14 := hide (below_on HB13.out hb14)
              have HP5 := hide (askput_any a0 cap0 l0.length l0 rfl w14 HRI.out (HR.out.on HB14.out))
              clear h hs14 hown14 hu4 hp4 hb14 HP4 HB13 HRQ3
              have hq4 := put_short HRMI.out HMK.out.1 HP44.out
              obtain ⟨Q4, hQ4⟩ : ∃ P, P = askP (gvs t4) := ⟨_, rfl⟩
              rw [← hQ4] at hq4 HS14 ⊢
              have HQ4 := hide hQ4
              clear hQ4
              go_wp2_with fail
              refine HP5.out.mono ?_
              rintro e w15 ⟨t5, hu5, hp5, h⟩
              obtain ⟨A15, c15, rfl, hs15, hown15, hb15⟩ := bytes_slice h
              have hne := put_unlike HRI.out HRMI.out (gvs_ok HR.out rfl) HMK.out.1 HMK.out.2 hp5 HP44.out
              rw [← HQ4.out] at hne
              have hq5 := put_short HRI.out (gvs_ok HR.out rfl) hp5
              generalize askP (gvs t5) = Q5 at *
              have hsm := same_any A14 A15 c14 c15 Q4.length Q5.length Q4 Q5 rfl rfl w15 w15.heap.size (by omega) (by omega) (HS14.out.on hb15) hs15
              rw [hne] at hsm
              have HSM := hide hsm
              have HB15 := hide (below_on HB14.out hb15)
              clear h hs15 hown15 hb15 hu5 hp5 hsm hne HS14 HP5 HB14 HQ4 HP44 HMK HRMI hq4 hq5
              go_wp2_with fail
              refine HSM.out.mono ?_
              rintro e wy ⟨rfl, ny, hy⟩
              have HBY := hide (below_on HB15.out (below_drawn (Below.refl _ _) ⟨ny, hy⟩))
              clear hy HSM HB15
              go_wp2
              go_meet
              exact HBY.out
          · have hpz : l0.length = 0 := by omega
            go_wp2
            go_meet
            exact HB8.out
        case rest => as_aux_lemma =>
          have HB9 := hide hcut
          clear hcut HB8 BX8 HQO HGO
          obtain ⟨w9, hw9⟩ : ∃ w9, w9 = wc := ⟨_, rfl⟩
          subst hw9
          have HAS := hide (asks_any a0 cap0 l0.length l0 rfl w9 (by omega) (bags_of rfl (few_bags HL.out)) (HR.out.on HB9.out))
          go_wp2_with fail
          refine HAS.out.mono ?_
          rintro e w10 ⟨v, m, rfl, hgm, hqm, hb10⟩
          obtain ⟨A9, c9, rfl, -, -, -⟩ := own_slice hqm.1
          have hml : m.length = l0.length := by rw [← gvs_len m, hgm, gvs_len]
          have HML := hide hml
          have HGM := hide hgm
          have HB10 := hide (below_on HB9.out hb10)
          have hnb := below_new w10 (.cells #[.int .i64 4, .string ⟨#[122, 122, 95, 122, 122, 95, 109, 111, 114, 101]⟩, .slice none 0 0] 40)
          have HQ11 := hide ((hqm.keep hnb).less (B' := w.heap.size) HB9.out.size)
          have HSL11 := hide (laid_one w10 ⟨4, ⟨#[122, 122, 95, 122, 122, 95, 109, 111, 114, 101]⟩, none, 0, []⟩)
          have HB11 := hide (below_on HB10.out hnb)
          have HZZ : Hid (GvOk (⟨4, ⟨#[122, 122, 95, 122, 122, 95, 109, 111, 114, 101]⟩, none, 0, []⟩ : Gm).gv) := hide ⟨⟨by decide, by decide⟩, by decide, fun v hv => absurd (show v ∈ ([] : List V3) from hv) List.not_mem_nil⟩
          clear HAS hgm hqm hb10 hnb hml HB10
          go_wp2_with (at_builtin; refine wpList_app _ rfl (.tmp 122) (.tmp 124) 32 rfl w.heap.size 40 j0 (.agg #[.int .i64 0, .string ByteArray.empty, .slice none 0 0]) 3 48 Try.underlying32 Gi.out Gz0.out Gz1.out Gz2.out rfl (by decide) _ m.length (cellsG m) rfl HQ11.out.1 _ (some ⟨w10.heap.size, 0, none⟩) 1 1 (cellsG [⟨4, ⟨#[122, 122, 95, 122, 122, 95, 109, 111, 114, 101]⟩, none, 0, []⟩]) rfl rfl HSL11.out (one_cellsG _) (by unfold maxLen; have := HML.out; omega) (by have := HML.out; omega) HB11.out.size ?_; intro v12 w12 hown12 hg12 hat12; have hq12 := HQ11.out.snoc (x := ⟨4, ⟨#[122, 122, 95, 122, 122, 95, 109, 111, 114, 101]⟩, none, 0, []⟩) (World.ownsRow_nil _ _ _ _) hg12 hown12; have hfacts := more_given (g := (⟨4, ⟨#[122, 122, 95, 122, 122, 95, 109, 111, 114, 101]⟩, none, 0, []⟩ : Gm)) HGM.out (gvs_ok HR.out rfl) HZZ.out; obtain ⟨M, hM⟩ : ∃ M, M = m ++ [(⟨4, ⟨#[122, 122, 95, 122, 122, 95, 109, 111, 114, 101]⟩, none, 0, []⟩ : Gm)] := ⟨_, rfl⟩; have HMl : Hid (M.length = l0.length + 1) := hide (by rw [hM, List.length_append, HML.out]; rfl); rw [← hM] at hq12 hfacts; have HB12 := hide (own_below HQ11.out.1 HB11.out hg12 (Nat.le_refl _) HB11.out.size); obtain ⟨A12, c12, rfl, -, -, -⟩ := own_slice hq12.1; have hrq := hq12.reqAt hfacts.1; clear hM hq12 hown12 hg12 hat12 HQ11 HSL11 HB11 HML HGM HZZ)
          have HMK := hide hfacts
          have HRQ := hide hrq
          clear hfacts hrq
          have HRM := hide (right_any A12 c12 M.length M rfl w12 (by have := HMl.out; unfold maxLen; omega) HRQ.out)
          go_wp2_with fail
          refine HRM.out.mono ?_
          rintro e w13 ⟨rfl, hb13⟩
          have HB13 := hide (below_on HB12.out hb13)
          have HRQ3 := hide (HRQ.out.on hb13)
          clear HRM HRQ hb13 HB12
          by_cases hrm : rightG (gvs M) = 0
          case neg =>
            have hne : (rightG (gvs M) != 0) = true := bne_iff_ne.2 hrm
            clear HMK hrm
            generalize rightG (gvs M) = rg at *
            go_wp2_with fail
            refine (askRuns_walk w13).mono ?_
            rintro e wz ⟨rfl, hbz⟩
            have HBZ := hide (below_on HB13.out hbz)
            clear hbz
            go_wp2
            go_ret
            exact ⟨rfl, HBZ.out⟩
          have HRMI := hide hrm
          rw [hrm]
          have HP4 := hide (askput_any A12 c12 M.length M rfl w13 hrm HRQ3.out)
          clear hrm
          go_wp2_with fail
          refine HP4.out.mono ?_
          rintro e w14 ⟨t4, hu4, hp4, h⟩
          obtain ⟨A14, c14, rfl, hs14, hown14, hb14⟩ := bytes_slice h
          have HS14 := hide hs14
          have HP44 := hide hp4
          have HB14 := hide (below_on HB13.out hb14)
          have HP5 := hide (askput_any a0 cap0 l0.length l0 rfl w14 HRI.out (HR.out.on HB14.out))
          clear h hs14 hown14 hu4 hp4 hb14 HP4 HB13 HRQ3
          have hq4 := put_short HRMI.out HMK.out.1 HP44.out
          obtain ⟨Q4, hQ4⟩ : ∃ P, P = askP (gvs t4) := ⟨_, rfl⟩
          rw [← hQ4] at hq4 HS14 ⊢
          have HQ4 := hide hQ4
          clear hQ4
          go_wp2_with fail
          refine HP5.out.mono ?_
          rintro e w15 ⟨t5, hu5, hp5, h⟩
          obtain ⟨A15, c15, rfl, hs15, hown15, hb15⟩ := bytes_slice h
          have hne := put_unlike HRI.out HRMI.out (gvs_ok HR.out rfl) HMK.out.1 HMK.out.2 hp5 HP44.out
          rw [← HQ4.out] at hne
          have hq5 := put_short HRI.out (gvs_ok HR.out rfl) hp5
          generalize askP (gvs t5) = Q5 at *
          have hsm := same_any A14 A15 c14 c15 Q4.length Q5.length Q4 Q5 rfl rfl w15 w15.heap.size (by omega) (by omega) (HS14.out.on hb15) hs15
          rw [hne] at hsm
          have HSM := hide hsm
          have HB15 := hide (below_on HB14.out hb15)
          clear h hs15 hown15 hb15 hu5 hp5 hsm hne HS14 HP5 HB14 HQ4 HP44 HMK HRMI hq4 hq5
          go_wp2_with fail
          refine HSM.out.mono ?_
          rintro e wy ⟨rfl, ny, hy⟩
          have HBY := hide (below_on HB15.out (below_drawn (Below.refl _ _) ⟨ny, hy⟩))
          clear hy HSM HB15
          go_wp2_with fail
          refine (askRuns_walk wy).mono ?_
          rintro e wz ⟨rfl, hbz⟩
          have HBZ := hide (below_on HBY.out hbz)
          clear hbz
          go_wp2
          go_ret
          exact ⟨rfl, HBZ.out⟩
end Go.Proofs.Ytjaofdalmjiliaa
