/-
  THE WALK OF bailifflaw1.PackBack: it returns true; only new memory is laid.
-/
import Derived.Test.YtinlnfhicnejmaaPkPut
import Derived.Deep.Cut
import Derived.Deep.CutRange
import Derived.Deep.DeepCutAuto
namespace Go.Proofs.Ytinlnfhicnejmaa
open Go.RowKit
set_option linter.unusedVariables false

/-- Both readers, behind so many items. -/
def BackRel (w : World) (M : List It) (T : List UInt8) (k l1 l2 gr gq : Nat) (i : Value) (wr : World) : Prop :=
  ∃ (j atq : Nat) (badq : Bool), j ≤ M.length ∧ i = .int .i64 j ∧ Below w.heap.size w wr ∧ Reads wr l1 gr T (putP (M.take j)).length false ∧ Reads wr l2 gq (T.take k) atq badq ∧ QRel k (putP (M.take j)).length atq badq
theorem back_text (M : List It) (T : List UInt8) (k j : Nat) (hT : T = putP M) (hj : j < M.length) (m : Int) (s : ByteArray) (hx : M[j] = (true, m, s)) :
    textAt T (putP (M.take j)).length false 40 = ((s40 s).data.toList, (putP (M.take (j + 1))).length, false) ∧
    ∀ at_ bad, QRel k (putP (M.take j)).length at_ bad → QRel k (putP (M.take (j + 1))).length (textAt (T.take k) at_ bad 40).2.1 (textAt (T.take k) at_ bad 40).2.2 := by
  have hs := putP_split M j hj
  have hst := putP_step M j hj
  rw [hx] at hs hst
  change putP M = putP (M.take j) ++ (textP (s40 s).data.toList ++ putP (M.drop (j + 1))) at hs
  change putP (M.take (j + 1)) = putP (M.take j) ++ textP (s40 s).data.toList at hst
  rw [hT, hs, hst, List.length_append]
  exact ⟨text_at _ _ _ (s40_len s), fun at_ bad h => q_text _ _ _ (s40_len s) k at_ bad h⟩
theorem back_num (M : List It) (T : List UInt8) (k j : Nat) (hT : T = putP M) (hj : j < M.length) (m : Int) (s : ByteArray) (hx : M[j] = (false, m, s)) (h1 : -9223372036854775808 ≤ m) (h2 : m ≤ 9223372036854775807) :
    inAt T (putP (M.take j)).length false (-9223372036854775808) 9223372036854775807 = (m, (putP (M.take (j + 1))).length, false) ∧
    ∀ at_ bad, QRel k (putP (M.take j)).length at_ bad → QRel k (putP (M.take (j + 1))).length (inAt (T.take k) at_ bad (-9223372036854775808) 9223372036854775807).2.1 (inAt (T.take k) at_ bad (-9223372036854775808) 9223372036854775807).2.2 := by
  have hs := putP_split M j hj
  have hst := putP_step M j hj
  rw [hx] at hs hst
  change putP M = putP (M.take j) ++ (numP m ++ putP (M.drop (j + 1))) at hs
  change putP (M.take (j + 1)) = putP (M.take j) ++ numP m at hst
  rw [hT, hs, hst, List.length_append]
  exact ⟨num_at _ _ _ h1 h2, fun at_ bad h => q_num _ _ _ h1 h2 k at_ bad h⟩
set_option maxHeartbeats 4000000 in
theorem packBack_walk (a0 : Option Addr) (cap0 : Nat) (l0 : List (Value × Value × Value)) (n1 : Int) (w : World) (hl0 : l0.length ≤ cap0) (hm0 : cap0 ≤ maxLen) (s0 : Sl w w.heap.size a0 (cells3 l0)) (q0 : ∀ x ∈ l0, ∃ (b : Bool) (n : Int) (s : ByteArray), x = (.bool b, .int .i64 n, .string s) ∧ -9223372036854775808 ≤ n ∧ n ≤ 9223372036854775807 ∧ s.size ≤ maxLen) (lo1 : -9223372036854775808 ≤ n1) (hi1 : n1 ≤ 9223372036854775807) :
    Calls Try.prog 7 #[.slice a0 l0.length cap0, .int .i64 n1] w fun e w' => e = .returned (.bool true) ∧ Below w.heap.size w w' := by
  obtain ⟨its, rfl, hok⟩ := items_of l0 q0
  have hmn : (its.map itemV).length = its.length := List.length_map ..
  have hM1 : (its.take 20).length = min 20 its.length := List.length_take
  have hMok : ∀ x ∈ its.take 20, Okay x := fun x hx => hok x (List.mem_of_mem_take hx)
  have hMs : Sl w w.heap.size a0 (cells3 ((its.take 20).map itemV)) := by
    have h := s0.take (20 * 3)
    rwa [cells3_take, ← List.map_take] at h
  rw [hmn] at hl0 ⊢
  generalize its.take 20 = M at *
  have HMS := hide hMs
  have HMO := hide hMok
  have hTl := (putP_len M hMok).2
  have hTM := (putP_len M hMok).1
  have hM20 : M.length ≤ 20 := by omega
  unfold maxLen at hm0
  clear q0 s0 hok hmn hMs hMok lo1 hi1
  go_enter Try.func7, Try.ntmps7
  go_upto_if 12 with (fail)
  go_cut [0] from 10 to 14 (fun v w' => v = .slice a0 M.length cap0 ∧ w = w')
  case first =>
    by_cases h20 : 20 < its.length
    · have e20 : M.length = 20 := by omega
      have d1 : (20 : Int) < (its.length : Int) := by omega
      have d2 : (20 : Int) ≤ (cap0 : Int) := by omega
      go_wp2
      go_meet
      exact ⟨by rw [e20], rfl⟩
    · have e20 : M.length = its.length := by omega
      have d1 : ¬ (20 : Int) < (its.length : Int) := by omega
      go_wp2
      go_meet
      exact ⟨by rw [e20], rfl⟩
  case rest =>
    obtain ⟨hv, hw⟩ := hcut
    subst hv
    subst hw
    clear hM1 hl0
    go_wp2_with fail
    refine (put_any a0 cap0 M.length M rfl w hM20 HMO.out HMS.out).mono ?_
    obtain ⟨T, hT⟩ : ∃ T, T = putP M := ⟨_, rfl⟩
    rw [← hT] at hTl hTM ⊢
    have HT := hide hT
    clear hT
    rintro e w1 ⟨v, rfl, hown, hb⟩
    obtain ⟨aT, cT, rfl, hcT, hsT⟩ := own_sl hown
    have HB1 := hide hb
    have HST := hide hsT
    clear hown hb hsT
    go_wp2_with fail
    refine (read_any aT cT T.length T rfl w1 (by omega) HST.out).mono ?_
    rintro e w2 ⟨gr, rfl, hr, hg, hb⟩
    have HB2 := hide (below_on HB1.out hb)
    have HST2 := hide (sl_on HST.out hb)
    have HR2 := hide hr
    have HGR : Hid (w.heap.size ≤ gr) := hide (Nat.le_trans HB1.out.size hg)
    clear hr hg hb HST HB1
    go_upto_if 21 with (fail)
    go_cut [7] from 19 to 26 (fun v w' => (∃ k : Nat, v = .int .i64 k ∧ k ≤ T.length ∧ (0 < T.length → k < T.length)) ∧ w2 = w')
    case first =>
      by_cases h0 : 0 < T.length
      · have d1 : (0 : Int) < (T.length : Int) := by omega
        have hsub : IntKind.i64.wrap ((T.length : Int) - 1) = (T.length : Int) - 1 := IntWalk.i64_in _ (by omega)
        have hW := hide (within_any n1 0 ((T.length : Int) - 1) w2 (by omega) (by omega) (by omega))
        have h1 := within_lo n1 0 ((T.length : Int) - 1) (by omega)
        have h2 := within_hi n1 0 ((T.length : Int) - 1) (by omega)
        generalize within n1 0 ((T.length : Int) - 1) = z at hW h1 h2
        obtain ⟨k, rfl⟩ := Int.eq_ofNat_of_zero_le h1
        go_wp2_with fail
        refine hW.out.mono ?_
        rintro e w3 ⟨rfl, rfl⟩
        go_wp2
        go_meet
        exact ⟨⟨k, rfl, by omega, fun _ => by omega⟩, rfl⟩
      · have d1 : ¬ (0 : Int) < (T.length : Int) := by omega
        go_wp2
        go_meet
        exact ⟨⟨0, rfl, by omega, fun h => by omega⟩, rfl⟩
    case rest =>
      obtain ⟨⟨k, hv, hk, hk0⟩, hw⟩ := hcut
      subst hv
      subst hw
      have i1 : (0 : Int) ≤ (k : Int) := by omega
      have i2 : (k : Int) ≤ (cT : Int) := by omega
      have hkc : k ≤ cT := by omega
      have HKL : Hid ((T.take k).length = k) := hide (by rw [List.length_take]; omega)
      have HK0 := hide hk0
      clear hk0
      go_wp2_with fail
      refine (read_any aT cT k (T.take k) HKL.out w2 (by rw [HKL.out]; omega) (HST2.out.takeBytes k)).mono ?_
      rintro e w3 ⟨gq, rfl, hq, hg, hb⟩
      have HB3 := hide (below_on HB2.out hb)
      have HR3 := hide (reads_below HR2.out hb (reads_lt HR2.out))
      have HQ3 := hide hq
      have HGQ : Hid (gr < w2.heap.size ∧ w2.heap.size ≤ gq) := hide ⟨reads_lt HR2.out, hg⟩
      clear hq hg hb HB2 HR2 HST2
      generalize w1.heap.size = l1 at *
      generalize w2.heap.size = l2 at *
      go_wp2
      go_loopw [39] (fun i wr => BackRel w M T k l1 l2 gr gq i wr) (fun i _ => M.length - (intOf i).toNat)
      case atStart => exact ⟨0, 0, false, by omega, rfl, HB3.out, HR3.out, HQ3.out, q_zero k⟩
      case round =>
        clear HB3 HR3 HQ3
        obtain ⟨j, atq, badq, hj, rfl, hbel, hr, hq, hqr⟩ := hrel
        have HBE := hide hbel
        have HR := hide hr
        have HQ := hide hq
        have HQR := hide hqr
        clear hbel hr hq hqr
        by_cases hlt : j < M.length
        · obtain ⟨b, off, rfl, hb, c0, c1, c2⟩ := Sl.triple HMS.out (i := j) (by simpa using hlt)
          have hx : (M.map itemV)[j]'(by simpa using hlt) = itemV M[j] := by simp
          rw [hx] at c0 c1 c2
          obtain ⟨⟨bt, m, s⟩, hxe⟩ : ∃ x, x = M[j] := ⟨_, rfl⟩
          have hok := HMO.out _ (List.getElem_mem hlt)
          rw [← hxe] at c0 c1 c2 hok
          have d0 := (HBE.out.cell hb).trans c0
          have d1 := (HBE.out.cell hb).trans c1
          have d2 := (HBE.out.cell hb).trans c2
          simp only [itemV] at d0 d1 d2
          have hk1 : IntKind.i64.wrap ((j : Int) + 1) = (j : Int) + 1 := IntWalk.i64_in _ (by omega)
          have HBW : Hid (b < wr.heap.size) := hide (Nat.lt_of_lt_of_le hb HBE.out.size)
          have HBL : Hid (b < w.heap.size) := hide hb
          clear c0 c1 c2 hx hb
          cases bt
          · have hbk := back_num M T k j HT.out hlt m s hxe.symm hok.1 hok.2
            have FT := hide hbk.1
            have FQ := hide (hbk.2 atq badq HQR.out)
            clear hbk d2 hok hxe
            go_wp2
            go_region_held3 (fun w' => w'.cell? ⟨b, off + j * 3 + 1, none⟩ = some (.int .i64 m))
              (first | assumption | exact d1 | exact hcA)
              ((go_at_call 17
                refine (rnum_any l1 gr T _ false _ (reads_drawn HR.out ⟨1, rfl⟩)).mono ?_
                rw [FT.out]
                rintro e wA ⟨rfl, hrA, hgA⟩
                have hgA' : wr.grownBy wA (some gr) := grown_trans' (grown_of_drawn ⟨1, rfl⟩ _) hgA
                have hcA : wA.cell? ⟨b, off + j * 3 + 1, none⟩ = some (.int .i64 m) := (World.cell?_of_block (hgA'.block b HBW.out (by have := HGR.out; have := HBL.out; intro h; injection h with h; omega))).trans d1))
            have HBA := hide (HBE.out.grown hgA' HBE.out.size (fun j hj => by injection hj with hj; subst hj; exact HGR.out))
            have HQA := hide (reads_keep HQ.out hgA' (reads_lt HQ.out) (by have := HGQ.out; omega) (.inl HGQ.out.1))
            have HRA := hide hrA
            clear hrA hgA hgA' hcA HBE HQ HR d1 FT
            go_wp2_with fail
            refine (rnum_any l2 gq (T.take k) atq badq wA HQA.out).mono ?_
            rintro e wB ⟨rfl, hqB, hgB⟩
            have HBB := hide (HBA.out.grown hgB HBA.out.size (fun j hj => by injection hj with hj; subst hj; have := HGQ.out; have := HGR.out; omega))
            have HRB := hide (reads_keep HRA.out hgB (reads_lt HRA.out) (by have := HGQ.out; omega) (.inr (by have := HGQ.out; omega)))
            have HQB := hide hqB
            clear hqB hgB HBA HQA HRA
            go_wp2
            go_roundw
            case rel => exact ⟨j + 1, _, _, hlt, by go_num, HBB.out, HRB.out, HQB.out, FQ.out⟩
            case measure => simp [intOf]; omega
          · have hbk := back_text M T k j HT.out hlt m s hxe.symm
            have FT := hide hbk.1
            have FQ := hide (hbk.2 atq badq HQR.out)
            have hm := less_40 s.size Try.prog
            have hE : Hid (s.extract 0 (min s.size 40) = s40 s) := rfl
            have hs1 : min s.size 40 ≤ s.size := Nat.min_le_left _ _
            have HSE := hide (text_self (s40 s))
            generalize min s.size 40 = m40 at hm hE hs1
            generalize s40 s = s4 at hE FT HSE
            have e1 := hE.out
            clear hbk d1 hok hxe hE
            go_wp2
            go_region_held3 (fun w' => w'.cell? ⟨b, off + j * 3 + 2, none⟩ = some (.string s))
              (first | assumption | exact d2 | exact hcA)
              ((go_at_call 16
                refine (rtext_any l1 gr T _ false 40 _ (reads_drawn HR.out ⟨1, rfl⟩)).mono ?_
                rw [FT.out, HSE.out]
                rintro e wA ⟨rfl, hrA, hgA⟩
                have hgA' : wr.grownBy wA (some gr) := grown_trans' (grown_of_drawn ⟨1, rfl⟩ _) hgA
                have hcA : wA.cell? ⟨b, off + j * 3 + 2, none⟩ = some (.string s) := (World.cell?_of_block (hgA'.block b HBW.out (by have := HGR.out; have := HBL.out; intro h; injection h with h; omega))).trans d2))
            all_goals
              have HBA := hide (HBE.out.grown hgA' HBE.out.size (fun j hj => by injection hj with hj; subst hj; exact HGR.out))
              have HQA := hide (reads_keep HQ.out hgA' (reads_lt HQ.out) (by have := HGQ.out; omega) (.inl HGQ.out.1))
              have HRA := hide hrA
              clear hrA hgA hgA' hcA HBE HQ HR d2 FT
              go_wp2_with fail
              refine (rtext_any l2 gq (T.take k) atq badq 40 wA HQA.out).mono ?_
              rintro e wB ⟨rfl, hqB, hgB⟩
              have HBB := hide (HBA.out.grown hgB HBA.out.size (fun j hj => by injection hj with hj; subst hj; have := HGQ.out; have := HGR.out; omega))
              have HRB := hide (reads_keep HRA.out hgB (reads_lt HRA.out) (by have := HGQ.out; omega) (.inr (by have := HGQ.out; omega)))
              have HQB := hide hqB
              clear hqB hgB HBA HQA HRA
              go_wp2
              go_roundw
              case rel => exact ⟨j + 1, _, _, hlt, by go_num, HBB.out, HRB.out, HQB.out, FQ.out⟩
              case measure => simp [intOf]; omega
        · obtain rfl : j = M.length := by omega
          have HRT : Hid (Reads wr l1 gr T T.length false) := hide (by have := HR.out; rw [List.take_length, ← HT.out] at this; exact this)
          have HQT : Hid (QRel k T.length atq badq) := hide (by have := HQR.out; rw [List.take_length, ← HT.out] at this; exact this)
          clear HR HQR hlt
          have hle : ¬ T.length < T.length := Nat.lt_irrefl _
          by_cases h0 : T.length = 0
          · have z0 : ((T.length : Int) == 0) = true := beq_iff_eq.2 (by omega)
            go_wp2_with fail
            refine (end_any _ gr T T.length false wr HRT.out).mono ?_
            rw [if_neg hle]
            rintro e w4 ⟨rfl, hd⟩
            rw [show wrongN false = 0 from rfl]
            have HB4 := hide (below_drawn HBE.out hd)
            have HR4 := hide (reads_drawn HRT.out hd)
            clear hd
            go_wp2_with fail
            refine (at_any _ gr T T.length false w4 HR4.out).mono ?_
            rintro e w5 ⟨rfl, rfl⟩
            go_wp2_with fail
            refine (packRuns_walk w4).mono ?_
            rintro e w6 ⟨rfl, hb⟩
            have HB6 := hide (below_on HB4.out hb)
            clear hb
            go_wp2
            go_ret
            exact ⟨rfl, HB6.out⟩
          · have z0 : ((T.length : Int) == 0) = false := beq_eq_false_iff_ne.2 (by omega)
            obtain rfl : badq = true := HQT.out.2 (HK0.out (by omega))
            go_wp2_with fail
            refine (end_any _ gr T T.length false wr HRT.out).mono ?_
            rw [if_neg hle]
            rintro e w4 ⟨rfl, hd⟩
            rw [show wrongN false = 0 from rfl]
            have HB4 := hide (below_drawn HBE.out hd)
            have HR4 := hide (reads_drawn HRT.out hd)
            have HQ4 := hide (reads_drawn HQ.out hd)
            clear hd
            go_wp2_with fail
            refine (at_any _ gr T T.length false w4 HR4.out).mono ?_
            rintro e w5 ⟨rfl, rfl⟩
            go_wp2_with fail
            refine (wrong_any _ gq (T.take k) atq true w4 HQ4.out).mono ?_
            rintro e w5 ⟨rfl, rfl⟩
            rw [show wrongN true = 7 from rfl]
            go_wp2_with fail
            refine (packRuns_walk w4).mono ?_
            rintro e w6 ⟨rfl, hb⟩
            have HB6 := hide (below_on HB4.out hb)
            clear hb
            go_wp2
            go_ret
            exact ⟨rfl, HB6.out⟩
end Go.Proofs.Ytinlnfhicnejmaa
