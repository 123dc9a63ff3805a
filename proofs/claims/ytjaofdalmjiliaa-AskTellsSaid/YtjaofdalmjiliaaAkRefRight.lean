/-
  CONTRACT OF the document's RightAsk: it tells rightG.
-/
import Derived.Test.YtjaofdalmjiliaaAkAskRight
import Derived.Test.YtjaofdalmjiliaaAkGet
import Derived.Test.YtjaofdalmjiliaaAkBag
namespace Go.Proofs.Ytjaofdalmjiliaa
open Go.RowKit
set_option linter.unusedVariables false

theorem idx_hit' {l : List Gm} {c : Int} {n : ByteArray} {k : Nat} (hk : k < l.length) (h : k ≤ idxG (gvs l) c n) (h1 : l[k].cat = c) (h2 : l[k].name = n) : idxG (gvs l) c n = k := by
  rcases Nat.lt_or_ge k (idxG (gvs l) c n) with h3 | h3
  · have := idx_before h3
    rw [gvs_at l k hk] at this
    exact absurd ⟨h1, h2⟩ this
  · omega
theorem idx_miss' {l : List Gm} {c : Int} {n : ByteArray} {k : Nat} (hk : k < l.length) (h : k ≤ idxG (gvs l) c n) (h1 : ¬ (l[k].cat = c ∧ l[k].name = n)) : k + 1 ≤ idxG (gvs l) c n := by
  rcases Nat.lt_or_ge k (idxG (gvs l) c n) with h3 | h3
  · omega
  · exfalso
    have h4 : idxG (gvs l) c n = k := by omega
    have h5 := idx_at (l := gvs l) (cat := c) (name := n) (by rw [h4, gvs_len]; exact hk)
    simp only [h4] at h5
    rw [gvs_at l k hk] at h5
    exact h1 h5
set_option maxHeartbeats 1500000 in
theorem refright_any (a : Option Addr) (c n : Nat) (l : List Gm) (hn : l.length = n) (w : World) (hl : l.length ≤ maxLen) (hr : Req w w.heap.size a l) :
    Calls Try.prog 17 #[.slice a n c] w (Told (.int .i64 (rightG (gvs l))) w) := by
  subst hn
  unfold maxLen at hl
  unfold Told
  have HR := hide hr
  clear hr
  have HG : Hid (rightG (gvs l) = if 64 < l.length then 6 else rightFrom (gvs l) (gvs l) 0) := hide (by unfold rightG; rw [gvs_len])
  by_cases h64 : 64 < l.length
  · have HF : Hid (rightG (gvs l) = 6) := hide (by rw [HG.out, if_pos h64])
    clear HG
    go_enter Try.func17, Try.ntmps17
    go_wp2
    go_ret
    exact ⟨by rw [HF.out]; rfl, Below.refl _ _⟩
  have HF : Hid (rightG (gvs l) = rightFrom (gvs l) (gvs l) 0) := hide (by rw [HG.out, if_neg h64])
  clear HG
  go_enter Try.func17, Try.ntmps17
  go_wp2
  go_loopw [11] (fun i wr => ∃ k : Nat, k ≤ l.length ∧ i = .int .i64 k ∧ Hid (rightFrom (gvs l) (gvs l) 0 = rightFrom (gvs l) ((gvs l).drop k) k) ∧ Hid (Below w.heap.size w wr)) (fun i _ => l.length - (intOf i).toNat)
  case atStart => exact ⟨0, by omega, rfl, hide rfl, hide (Below.refl _ _)⟩
  case round =>
    obtain ⟨k, hk, rfl, HK, HB⟩ := hrel
    by_cases hlt : k < l.length
    · obtain ⟨b, off, rfl, hb, x0, x1, x2⟩ := (HR.out.below HB.out).at hlt
      have HX := hide (HR.out.2 l[k] (List.getElem_mem _))
      have HRR := hide (rightRound hlt HK.out)
      have hp2 := (place_low hlt).2
      clear HK
      generalize l[k] = x at *
      obtain ⟨xc, xn, xa, xcap, bag⟩ := x
      simp only at x0 x1 x2 hp2
      have HB2 : Hid (Below w.heap.size w (wr.alloc (.cells #[.int .i64 xc, .string xn, .slice xa bag.length xcap] 40))) := hide (HB.out.alloc HB.out.size _)
      by_cases c1 : xc < 1
      · have HE := hide (HRR.out.stop (fit_no1 c1))
        have d1 : decide (xc < 1) = true := decide_eq_true c1
        clear HRR
        go_wp2
        go_ret
        exact ⟨by rw [HF.out, HE.out]; rfl, HB2.out⟩
      have d1 : decide (xc < 1) = false := decide_eq_false c1
      by_cases c2 : 4 < xc
      · have HE := hide (HRR.out.stop (fit_no2 c2))
        have d2 : decide (xc > 4) = true := decide_eq_true c2
        clear HRR
        go_wp2
        go_ret
        exact ⟨by rw [HF.out, HE.out]; rfl, HB2.out⟩
      have d2 : decide (xc > 4) = false := decide_eq_false c2
      have g1 : 1 ≤ xc := by omega
      have g2 : xc ≤ 4 := by omega
      have HN := hide (rname_any xn HX.out.2.1 (wr.alloc (.cells #[.int .i64 xc, .string xn, .slice xa bag.length xcap] 40)))
      have HQ3 := hide (fun h => HRR.out.stop (fit_no3 h))
      have hz := three_laid wr (.int .i64 xc) (.string xn) (.slice xa bag.length xcap) 40
      have hsz : wr.heap.size < (wr.alloc (.cells #[.int .i64 xc, .string xn, .slice xa bag.length xcap] 40)).heap.size := by simp
      obtain ⟨z0, z1, z2⟩ := hz
      have hbl : bag.length ≤ maxLen := by have h1 := HX.out.2.2.1; have h2 := HX.out.2.2.2.1; exact Nat.le_trans h1 h2
      have HBG := hide (rbag_any xa xcap bag.length bag rfl _ (fun v hv => (HX.out.2.2.2.2.2 v hv).2.2) hbl ((HX.out.2.2.2.2.1.below HB2.out).more HB2.out.size))
      have HQ4 := hide (fun h => HRR.out.stop (fit_no4 h))
      have HQ5 := hide (fun h3 h4 => HRR.out.twice (fit_yes g1 g2 h3 h4))
      have HQ6 := hide (fun h3 h4 => HRR.out.go (fit_yes g1 g2 h3 h4))
      simp only at HQ3 HQ4 HQ5 HQ6
      clear HRR c1 c2 hbl
      generalize nameB xn = nb at *
      generalize bagB bag = bb at *
      cases nb
      · go_wp2_with (go_at_call 37; refine HN.out.mono ?_; rintro e w' ⟨rfl, rfl⟩)
        go_ret
        exact ⟨by rw [HF.out, HQ3.out (by simp)]; rfl, HB2.out⟩
      go_wp2_with (go_at_call 37; refine HN.out.mono ?_; rintro e w' ⟨rfl, rfl⟩; clear HN)
      refine HBG.out.mono ?_
      rintro e w2 ⟨rfl, hb2⟩
      have y0 := (hb2.cell (p := ⟨wr.heap.size, 0, none⟩) hsz).trans z0
      have y1 := (hb2.cell (p := ⟨wr.heap.size, 1, none⟩) hsz).trans z1
      have hgs : wr.heap.size < w2.heap.size := Nat.lt_of_lt_of_le hsz hb2.size
      have HB3 := hide (below_on HB2.out hb2)
      clear HBG hb2 z0 z1 z2 hsz HQ3 HB2
      cases bb
      · go_wp2
        go_ret
        exact ⟨by rw [HF.out, HQ4.out (by simp)]; rfl, HB3.out⟩
      clear HQ4
      have HY : Hid ((w2.cell? ⟨wr.heap.size, 0, none⟩ = some (.int .i64 xc) ∧ w2.cell? ⟨wr.heap.size, 1, none⟩ = some (.string xn)) ∧ wr.heap.size < w2.heap.size) := hide ⟨⟨y0, y1⟩, hgs⟩
      clear y0 y1 hgs x0 x1 x2 hb HB
      generalize wr.heap.size = gb at *
      clear wr
      go_wp2
      obtain ⟨ix, hix⟩ : ∃ ix, ix = idxG (gvs l) xc xn := ⟨_, rfl⟩
      rw [← hix] at hp2
      have HIX := hide hix
      clear hix
      go_loopw [5] (fun i wr => ∃ j : Nat, j ≤ k ∧ i = .int .i64 j ∧ Hid (j ≤ ix) ∧ Hid (Below w2.heap.size w2 wr)) (fun i _ => k - (intOf i).toNat)
      case atStart => exact ⟨0, by omega, rfl, hide (by omega), hide (Below.refl _ _)⟩
      case round =>
        obtain ⟨j, hj, rfl, HJ, HBJ⟩ := hrel
        have HBW := hide (below_on HB3.out HBJ.out)
        by_cases hjk : j < k
        · have hjl : j < l.length := by omega
          obtain ⟨b', off', e', hb', x0, x1, x2⟩ := (HR.out.below HBW.out).at hjl
          injection e' with e'
          injection e' with e1 e2
          subst e1 e2
          have y0 := (HBJ.out.cell (p := ⟨gb, 0, none⟩) HY.out.2).trans HY.out.1.1
          have y1 := (HBJ.out.cell (p := ⟨gb, 1, none⟩) HY.out.2).trans HY.out.1.2
          have HH := hide (fun h1 h2 => (idx_hit' (c := xc) (n := xn) hjl (by rw [← HIX.out]; exact HJ.out) h1 h2))
          have HM := hide (fun h1 => (idx_miss' (c := xc) (n := xn) hjl (by rw [← HIX.out]; exact HJ.out) h1))
          rw [← HIX.out] at HH HM
          have h0j : (0 : Int) ≤ (j : Int) := by omega
          have h1j : (j : Int) < (l.length : Int) := by omega
          clear x2 hb' HJ
          generalize l[j].cat = jc at *
          generalize l[j].name = jn at *
          have hsd := str_dec jn xn
          by_cases h1 : jc = xc
          · have q1 : (jc == xc) = true := beq_iff_eq.2 h1
            by_cases h2 : jn = xn
            · rw [decide_eq_true h2] at hsd
              have HT := hide (HH.out h1 h2)
              have HE := hide (HQ5.out (by simp) (by simp) (by rw [← HIX.out, HT.out]; exact hjk))
              clear HH HM h1 h2 HQ5 HQ6
              go_wp2
              go_quiet (fail)
              go_wp2
              go_ret
              exact ⟨by rw [HF.out, HE.out]; rfl, below_drawn HBW.out ⟨_, rfl⟩⟩
            · rw [decide_eq_false h2] at hsd
              have HT := hide (HM.out (fun h => h2 h.2))
              clear HH HM h1 h2
              go_wp2
              go_quiet (fail)
              go_wp2
              go_roundw
              case rel => exact ⟨j + 1, by omega, by go_num, HT, hide (below_drawn HBJ.out ⟨_, rfl⟩)⟩
              case measure => simp [intOf]; omega
          · have q1 : (jc == xc) = false := beq_eq_false_iff_ne.2 h1
            have HT := hide (HM.out (fun h => h1 h.1))
            clear HH HM h1 hsd
            go_wp2
            go_quiet (fail)
            go_wp2
            go_roundw
            case rel => exact ⟨j + 1, by omega, by go_num, HT, hide (below_drawn HBJ.out ⟨_, rfl⟩)⟩
            case measure => simp [intOf]; omega
        · obtain rfl : j = k := by omega
          have HE := hide (HQ6.out (by simp) (by simp) (by rw [← HIX.out]; have := HJ.out; omega))
          clear HQ5 HQ6
          go_wp2
          go_roundw
          case rel => exact ⟨j + 1, by omega, by go_num, HE, HBW⟩
          case measure => simp [intOf]; omega
    · obtain rfl : k = l.length := by omega
      have HX : Hid (rightG (gvs l) = 0) := hide (by rw [HF.out, HK.out, rightFrom_end])
      go_wp2
      go_ret
      exact ⟨by rw [HX.out]; rfl, HB.out⟩
end Go.Proofs.Ytjaofdalmjiliaa
