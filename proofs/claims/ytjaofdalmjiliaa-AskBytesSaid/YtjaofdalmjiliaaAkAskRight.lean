/-
  CONTRACT OF ask.Right: it tells rightG.
-/
import Derived.Test.YtjaofdalmjiliaaAkFew
namespace Go.Proofs.Ytjaofdalmjiliaa
open Go.RowKit
set_option linter.unusedVariables false

theorem place_low {l : List Gm} {k : Nat} (hk : k < l.length) : placeG (gvs l) l[k].cat l[k].name = (idxG (gvs l) l[k].cat l[k].name : Int) ∧ idxG (gvs l) l[k].cat l[k].name ≤ k := by
  have h := idx_le_at (l := gvs l) (i := k) (by rw [gvs_len]; exact hk)
  rw [gvs_at l k hk] at h
  have h2 : idxG (gvs l) l[k].cat l[k].name ≤ k := h
  refine ⟨?_, h2⟩
  unfold placeG
  rw [if_pos (by rw [gvs_len]; omega)]
theorem rightFrom_step (l : List Gm) (k : Nat) (hk : k < l.length) : rightFrom (gvs l) ((gvs l).drop k) k = if fitG l[k].gv = false then 1 else if idxG (gvs l) l[k].cat l[k].name < k then 11 else rightFrom (gvs l) ((gvs l).drop (k + 1)) (k + 1) := by
  rw [List.drop_eq_getElem_cons (by rw [gvs_len]; exact hk), gvs_at l k hk]
  rfl
theorem rightFrom_end (l : List Gm) : rightFrom (gvs l) ((gvs l).drop l.length) l.length = 0 := by
  rw [List.drop_of_length_le (by rw [gvs_len]; omega)]
  rfl
theorem fit_parts (x : Gm) : fitG x.gv = ((decide (1 ≤ x.cat) && decide (x.cat ≤ 4)) && (nameB x.name && bagB x.bag)) := rfl
/-- What a round of Right comes to. -/
structure RightRound (l : List Gm) (k : Nat) (x : Gm) : Prop where
  stop : fitG x.gv = false → rightFrom (gvs l) (gvs l) 0 = 1
  twice : fitG x.gv = true → idxG (gvs l) x.cat x.name < k → rightFrom (gvs l) (gvs l) 0 = 11
  go : fitG x.gv = true → ¬ idxG (gvs l) x.cat x.name < k → rightFrom (gvs l) (gvs l) 0 = rightFrom (gvs l) ((gvs l).drop (k + 1)) (k + 1)
theorem rightRound {l : List Gm} {k : Nat} (hk : k < l.length) (h : rightFrom (gvs l) (gvs l) 0 = rightFrom (gvs l) ((gvs l).drop k) k) : RightRound l k l[k] := by
  rw [rightFrom_step l k hk] at h
  refine ⟨fun h1 => ?_, fun h1 h2 => ?_, fun h1 h2 => ?_⟩
  · rw [h, if_pos h1]
  · rw [h, if_neg (by rw [h1]; decide), if_pos h2]
  · rw [h, if_neg (by rw [h1]; decide), if_neg h2]
theorem fit_no1 {x : Gm} (h : x.cat < 1) : fitG x.gv = false := by rw [fit_parts, decide_eq_false (by omega)]; rfl
theorem fit_no2 {x : Gm} (h : 4 < x.cat) : fitG x.gv = false := by rw [fit_parts, decide_eq_false (show ¬ x.cat ≤ 4 by omega), Bool.and_false]; rfl
theorem fit_no3 {x : Gm} (h : nameB x.name = false) : fitG x.gv = false := by rw [fit_parts, h, Bool.false_and, Bool.and_false]
theorem fit_no4 {x : Gm} (h : bagB x.bag = false) : fitG x.gv = false := by rw [fit_parts, h, Bool.and_false, Bool.and_false]
theorem fit_yes {x : Gm} (h1 : 1 ≤ x.cat) (h2 : x.cat ≤ 4) (h3 : nameB x.name = true) (h4 : bagB x.bag = true) : fitG x.gv = true := by rw [fit_parts, h3, h4, decide_eq_true h1, decide_eq_true h2]; rfl
set_option maxHeartbeats 1000000 in
theorem right_any (a : Option Addr) (c n : Nat) (l : List Gm) (hn : l.length = n) (w : World) (hl : l.length ≤ maxLen) (hr : Req w w.heap.size a l) :
    Calls Try.prog 12 #[.slice a n c] w (Told (.int .i64 (rightG (gvs l))) w) := by
  subst hn
  unfold maxLen at hl
  unfold Told
  have HR := hide hr
  clear hr
  have HG : Hid (rightG (gvs l) = if 64 < l.length then 6 else rightFrom (gvs l) (gvs l) 0) := hide (by unfold rightG; rw [gvs_len])
  by_cases h64 : 64 < l.length
  · have HF : Hid (rightG (gvs l) = 6) := hide (by rw [HG.out, if_pos h64])
    clear HG
    go_enter Try.func12, Try.ntmps12
    go_wp2
    go_ret
    exact ⟨by rw [HF.out]; rfl, Below.refl _ _⟩
  have HF : Hid (rightG (gvs l) = rightFrom (gvs l) (gvs l) 0) := hide (by rw [HG.out, if_neg h64])
  clear HG
  go_enter Try.func12, Try.ntmps12
  go_wp2
  go_loopw [10] (fun i wr => ∃ k : Nat, k ≤ l.length ∧ i = .int .i64 k ∧ Hid (rightFrom (gvs l) (gvs l) 0 = rightFrom (gvs l) ((gvs l).drop k) k) ∧ Hid (Below w.heap.size w wr)) (fun i _ => l.length - (intOf i).toNat)
  case atStart => exact ⟨0, by omega, rfl, hide rfl, hide (Below.refl _ _)⟩
  case round =>
    obtain ⟨k, hk, rfl, HK, HB⟩ := hrel
    by_cases hlt : k < l.length
    · obtain ⟨b, off, rfl, hb, x0, x1, x2⟩ := (HR.out.below HB.out).at hlt
      have HX := hide (HR.out.2 l[k] (List.getElem_mem _))
      have HRR := hide (rightRound hlt HK.out)
      obtain ⟨hp1, hp2⟩ := place_low hlt
      have HP1 := hide hp1
      clear HK hp1
      generalize l[k] = x at *
      obtain ⟨xc, xn, xa, xcap, bag⟩ := x
      simp only at x0 x1 x2 hp2 HP1
      have HB2 : Hid (Below w.heap.size w (wr.alloc (.cells #[.int .i64 xc, .string xn, .slice xa bag.length xcap] 40))) := hide (HB.out.alloc HB.out.size _)
      by_cases c1 : xc < 1
      · have HE := hide (HRR.out.stop (fit_no1 c1))
        have d1 : decide (xc < 1) = true := decide_eq_true c1
        clear HRR
        go_wp2
        go_ret
        exact ⟨by rw [HF.out, HE.out]; rfl, HB2.out⟩
      have d1 : decide (xc < 1) = false := decide_eq_false c1
      by_cases c2 : 4 < xc
      · have HE := hide (HRR.out.stop (fit_no2 c2))
        have d2 : decide (xc > 4) = true := decide_eq_true c2
        clear HRR
        go_wp2
        go_ret
        exact ⟨by rw [HF.out, HE.out]; rfl, HB2.out⟩
      have d2 : decide (xc > 4) = false := decide_eq_false c2
      have g1 : 1 ≤ xc := by omega
      have g2 : xc ≤ 4 := by omega
      have HN := hide (vname_any xn HX.out.2.1 (wr.alloc (.cells #[.int .i64 xc, .string xn, .slice xa bag.length xcap] 40)))
      have HQ3 := hide (fun h => HRR.out.stop (fit_no3 h))
      have hz := three_laid wr (.int .i64 xc) (.string xn) (.slice xa bag.length xcap) 40
      have hsz : wr.heap.size < (wr.alloc (.cells #[.int .i64 xc, .string xn, .slice xa bag.length xcap] 40)).heap.size := by simp
      obtain ⟨z0, z1, z2⟩ := hz
      have hbl : bag.length ≤ maxLen := by have h1 := HX.out.2.2.1; have h2 := HX.out.2.2.2.1; exact Nat.le_trans h1 h2
      have HBG := hide (vbag_any xa xcap bag.length bag rfl _ (fun v hv => (HX.out.2.2.2.2.2 v hv).2.2) hbl ((HX.out.2.2.2.2.1.below HB2.out).more HB2.out.size))
      have HQ4 := hide (fun h => HRR.out.stop (fit_no4 h))
      have HQ5 := hide (fun h3 h4 => HRR.out.twice (fit_yes g1 g2 h3 h4))
      have HQ6 := hide (fun h3 h4 => HRR.out.go (fit_yes g1 g2 h3 h4))
      simp only at HQ3 HQ4 HQ5 HQ6
      clear HRR c1 c2 hbl
      generalize nameB xn = nb at *
      generalize bagB bag = bb at *
      cases nb
      · go_wp2_with (go_at_call 35; refine HN.out.mono ?_; rintro e w' ⟨rfl, rfl⟩)
        go_ret
        exact ⟨by rw [HF.out, HQ3.out (by simp)]; rfl, HB2.out⟩
      go_wp2_with (go_at_call 35; refine HN.out.mono ?_; rintro e w' ⟨rfl, rfl⟩; clear HN)
      refine HBG.out.mono ?_
      rintro e w2 ⟨rfl, hb2⟩
      have y0 := (hb2.cell (p := ⟨wr.heap.size, 0, none⟩) hsz).trans z0
      have y1 := (hb2.cell (p := ⟨wr.heap.size, 1, none⟩) hsz).trans z1
      have HB3 := hide (below_on HB2.out hb2)
      clear HBG hb2 z0 z1 z2 hsz HQ3 HB2
      cases bb
      · go_wp2
        go_ret
        exact ⟨by rw [HF.out, HQ4.out (by simp)]; rfl, HB3.out⟩
      have HP := hide (place_any (some ⟨b, off, none⟩) c l.length l rfl xc xn w2 (by unfold maxLen; omega) (HR.out.on HB3.out))
      rw [HP1.out] at HP
      clear HP1 HQ4
      go_wp2_with fail
      refine HP.out.mono ?_
      rintro e w3 ⟨rfl, hb3⟩
      have HB4 := hide (below_on HB3.out hb3)
      clear HP hb3 y0 y1 HB3
      generalize idxG (gvs l) xc xn = ix at *
      by_cases hix : ix < k
      · have HE := hide (HQ5.out (by simp) (by simp) hix)
        have d3 : decide ((ix : Int) < (k : Int)) = true := decide_eq_true (by omega)
        clear HQ5 HQ6
        go_wp2
        go_ret
        exact ⟨by rw [HF.out, HE.out]; rfl, HB4.out⟩
      · have HE := hide (HQ6.out (by simp) (by simp) hix)
        have d3 : decide ((ix : Int) < (k : Int)) = false := decide_eq_false (by omega)
        clear HQ5 HQ6
        go_wp2
        go_roundw
        case rel => exact ⟨k + 1, by omega, by go_num, HE, HB4⟩
        case measure => simp [intOf]; omega
    · obtain rfl : k = l.length := by omega
      have HX : Hid (rightG (gvs l) = 0) := hide (by rw [HF.out, HK.out, rightFrom_end])
      go_wp2
      go_ret
      exact ⟨by rw [HX.out]; rfl, HB.out⟩
end Go.Proofs.Ytjaofdalmjiliaa
