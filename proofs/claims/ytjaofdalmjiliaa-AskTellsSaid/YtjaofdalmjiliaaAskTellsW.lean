/-
  THE WALK OF bailifflaw11.AskTells: it returns true; only new memory is laid.
-/
import Derived.Test.YtjaofdalmjiliaaAskWithW
import Derived.Test.YtjaofdalmjiliaaAkOrdP
import Derived.Test.YtjaofdalmjiliaaAkRefWith
import Derived.Test.YtjaofdalmjiliaaAkRefPut
namespace Go.Proofs.Ytjaofdalmjiliaa
open Go.RowKit
set_option linter.unusedVariables false

theorem ownPost_slice {w : World} {l : List UInt8} {e : Ending} {w' : World} (h : OwnPost w.heap.size w l e w') : ∃ A c, e = .returned (.slice A l.length c) ∧ Sl w' w'.heap.size A (vbytes l) ∧ Below w.heap.size w w' := by
  obtain ⟨v, rfl, hown, hb⟩ := h
  obtain ⟨A, c, rfl, _, hs, _⟩ := own_slice hown
  exact ⟨A, c, rfl, hs, hb⟩
/-- The given box, and that only new memory was laid. -/
theorem heldG {W w' w'' : World} {b : Nat} {x y z : Value} (hlt : b < W.heap.size) (h : w'.cell? ⟨b, 0, none⟩ = some x ∧ w'.cell? ⟨b, 1, none⟩ = some y ∧ w'.cell? ⟨b, 2, none⟩ = some z ∧ Below W.heap.size W w') (hb : Below w'.heap.size w' w'') :
    w''.cell? ⟨b, 0, none⟩ = some x ∧ w''.cell? ⟨b, 1, none⟩ = some y ∧ w''.cell? ⟨b, 2, none⟩ = some z ∧ Below W.heap.size W w'' := by
  have h1 : b < w'.heap.size := Nat.lt_of_lt_of_le hlt h.2.2.2.size
  exact ⟨(hb.cell (p := ⟨b, 0, none⟩) h1).trans h.1, (hb.cell (p := ⟨b, 1, none⟩) h1).trans h.2.1, (hb.cell (p := ⟨b, 2, none⟩) h1).trans h.2.2.1, below_on h.2.2.2 hb⟩
set_option maxHeartbeats 8000000 in
set_option maxRecDepth 20000 in
theorem askTells_in (a0 : Option Addr) (cap0 : Nat) (l0 : List Gm) (cat1 : Int) (name1 : ByteArray) (must1 : Bool) (x2 : Gm) (w : World) (hz0 : l0.length ≤ 140737488355328) (s0 : Req w w.heap.size a0 l0) (hc1 : I64 cat1) (hn1 : name1.size ≤ maxLen) (g2 : GOk w w.heap.size x2) :
    Calls Try.prog 6 #[.slice a0 l0.length cap0, .agg #[.int .i64 cat1, .string name1, .bool must1], .agg #[.int .i64 x2.cat, .string x2.name, .slice x2.at_ x2.bag.length x2.cap]] w (Yes w) := by
  have HR := hide s0
  have HX := hide g2
  obtain ⟨xc, xn, xa, xcap, bag⟩ := x2
  obtain ⟨w0, hw0⟩ : ∃ w0, w0 = (w.alloc (.cells #[.int .i64 cat1, .string name1, .bool must1] 27)).alloc (.cells #[.int .i64 xc, .string xn, .slice xa bag.length xcap] 40) := ⟨_, rfl⟩
  have hb0 : Below w.heap.size w w0 := hw0 ▸ below_on (below_new w _) (below_new _ _)
  have BX : Hid (Boxes w.heap.size (.int .i64 cat1) (.string name1) (.bool must1) (.int .i64 xc) (.string xn) (.slice xa bag.length xcap) w0) := hide (hw0 ▸ boxes_new w _ _ _ _ _ _ _ _)
  have HB0 := hide hb0
  have HF := hide (few_any a0 cap0 l0.length l0 rfl w0 hz0 (HR.out.on hb0))
  have hs1 : (w.alloc (.cells #[.int .i64 cat1, .string name1, .bool must1] 27)).heap.size = w.heap.size + 1 := by simp
  have HNM : Hid (name1.size ≤ 9223372036854775807) := hide (by unfold maxLen at hn1; omega)
  clear s0 g2 hc1 hn1 hb0
  go_enter Try.func6, Try.ntmps6
  go_wp2_with fail
  rw [← hw0]
  clear hw0 hs1
  refine HF.out.mono ?_
  rintro e w1 ⟨b, rfl, hfew, hb1⟩
  have BX1 := hide (BX.out.keep hb1)
  have HB1 := hide (below_on HB0.out hb1)
  have HFEW := hide hfew
  clear HF hb1 hfew BX HB0 w0
  cases b
  · go_wp2_with fail
    refine (askRuns_walk w1).mono ?_
    rintro e wz ⟨rfl, hbz⟩
    have HBZ := hide (below_on HB1.out hbz)
    clear hbz
    go_wp2
    go_ret
    exact ⟨rfl, HBZ.out⟩
  have HL := hide (HFEW.out rfl)
  clear HFEW
  have HRQ := hide (req_one HX.out HB1.out)
  have HF2 := hide (few_any (some ⟨w1.heap.size, 0, none⟩) 1 1 [⟨xc, xn, xa, xcap, bag⟩] rfl _ (by simp) HRQ.out)
  obtain ⟨blt, q0, q1, q2, q3, q4, q5⟩ := BX1.out
  go_wp2_with fail
  refine HF2.out.mono ?_
  rintro e w2 ⟨b, rfl, hfew, hb2⟩
  have hb12 := below_on (below_new w1 (.cells #[.int .i64 xc, .string xn, .slice xa bag.length xcap] 40)) hb2
  have BX2 := hide (BX1.out.keep hb12)
  have HB2 := hide (below_on HB1.out hb12)
  have HFEW := hide hfew
  clear HF2 hb2 hb12 hfew HRQ HB1 BX1 blt q0 q1 q2 q3 q4 q5
  cases b
  · go_wp2_with fail
    refine (askRuns_walk w2).mono ?_
    rintro e wz ⟨rfl, hbz⟩
    have HBZ := hide (below_on HB2.out hbz)
    clear hbz
    go_wp2
    go_ret
    exact ⟨rfl, HBZ.out⟩
  have HXL : Hid (bag.length ≤ 1000000) := hide (by have := ((HFEW.out rfl).2 0 (by simp)).2.1; simp only [List.getElem_cons_zero] at this; omega)
  have HLL : Hid (l0.length ≤ 600) := hide HL.out.1
  clear HFEW
  obtain ⟨blt, q0, q1, q2, q3, q4, q5⟩ := BX2.out
  have hnm : name1.size ≤ 9223372036854775807 := HNM.out
  by_cases h60 : 60 < name1.size
  · have d60 : decide ((name1.size : Int) > 60) = true := decide_eq_true (by omega)
    go_wp2_with fail
    refine (askRuns_walk w2).mono ?_
    rintro e wz ⟨rfl, hbz⟩
    have HBZ := hide (below_on HB2.out hbz)
    clear hbz
    go_wp2
    go_ret
    exact ⟨rfl, HBZ.out⟩
  have d60 : decide ((name1.size : Int) > 60) = false := decide_eq_false (by omega)
  have HAS := hide (asks_any a0 cap0 l0.length l0 rfl w2 (by have := HLL.out; omega) (bags_of rfl (few_bags HL.out)) (HR.out.on HB2.out))
  clear h60
  go_wp2_with fail
  refine HAS.out.mono ?_
  rintro e w3 ⟨v, o, rfl, hgo, hqo, hb3⟩
  obtain ⟨A3, c3, rfl, hro⟩ := hqo.req (gvs_ok HR.out hgo)
  have BX3 := hide (BX2.out.keep hb3)
  have HB3 := hide (below_on HB2.out hb3)
  have HM3 := hide hro
  have HGO := hide hgo
  have HOL : Hid (o.length = l0.length) := hide (by rw [← gvs_len o, hgo, gvs_len])
  clear HAS hgo hqo hro hb3 blt q0 q1 q2 q3 q4 q5 BX2 HB2 d60
  have HBQ : Hid ((bagG (gvs l0) cat1 name1).length ≤ maxLen) := hide (by
    have h : (bagG (gvs l0) cat1 name1).length ≤ 1000000 := by
      by_cases hin : idxG (gvs l0) cat1 name1 < (gvs l0).length
      · rw [bag_at hin]; exact few_bags HL.out _ (List.getElem_mem _)
      · rw [bag_none hin]; simp
    unfold maxLen; omega)
  have HG1 := hide (get_any a0 cap0 l0.length l0 rfl cat1 name1 must1 w3 (by have := HLL.out; unfold maxLen; omega) (bags_of rfl (few_bags HL.out)) (HR.out.on HB3.out))
  have HG2 := hide (fun (w4 : World) (hb : Below w.heap.size w w4) => rget_any a0 cap0 l0.length l0 rfl cat1 name1 must1 w4 (by have := HLL.out; unfold maxLen; omega) (bags_of rfl (few_bags HL.out)) (HR.out.on hb))
  generalize bagG (gvs l0) cat1 name1 = bq at *
  obtain ⟨blt, q0, q1, q2, q3, q4, q5⟩ := BX3.out
  go_wp2_with fail
  refine HG1.out.mono ?_
  intro e w4 h
  obtain ⟨A4, d4, rfl, hs4, hb4⟩ := got_slice h
  have BX4 := hide (BX3.out.keep hb4)
  have HB4 := hide (below_on HB3.out hb4)
  have HM4 := hide (HM3.out.on hb4)
  have HS4 := hide hs4
  have HG2 := hide (HG2.out w4 HB4.out)
  clear HG1 h hs4 hb4 blt q0 q1 q2 q3 q4 q5 BX3 HB3 HM3
  obtain ⟨blt, q0, q1, q2, q3, q4, q5⟩ := BX4.out
  go_wp2_with fail
  refine HG2.out.mono ?_
  intro e w5 h
  obtain ⟨A5, d5, rfl, hs5, hb5⟩ := got_slice h
  have BX5 := hide (BX4.out.keep hb5)
  have HB5 := hide (below_on HB4.out hb5)
  have HM5 := hide (HM4.out.on hb5)
  have HS4b := hide (HS4.out.on hb5)
  have HS5 := hide hs5
  clear HG2 h hs5 hb5 blt q0 q1 q2 q3 q4 q5 BX4 HB4 HM4 HS4
  generalize codeG bq must1 = cd at *
  have HRR := hide (refright_any a0 cap0 l0.length l0 rfl w5 (by have := HLL.out; unfold maxLen; omega) (HR.out.on HB5.out))
  go_upto_region 6 with (fail)
  go_cut [12] from 43 to 52 (fun v w' => v = .bool true ∧ Below w5.heap.size w5 w')
  case first => as_aux_lemma =>
    clear BX5 HM5 HS4b HS5
    by_cases hr : rightG (gvs l0) = 0
    · have HRI := hide hr
      rw [hr] at HRR
      clear hr
      go_wp2_with fail
      refine HRR.out.mono ?_
      rintro e w6 ⟨rfl, hb6⟩
      have HB6 := hide hb6
      have HP1 := hide (askput_any a0 cap0 l0.length l0 rfl w6 HRI.out (HR.out.on (below_on HB5.out hb6)))
      clear HRR hb6
      go_wp2_with fail
      refine HP1.out.mono ?_
      rintro e w7 ⟨t1, hu1, hp1, h⟩
      obtain ⟨A7, c7, rfl, hs7, hown7, hb7⟩ := bytes_slice h
      have HB7 := hide (below_on HB6.out hb7)
      have HS7 := hide hs7
      have HT1 := hide (And.intro hu1 hp1)
      have HP2 := hide (refput_any a0 cap0 l0.length l0 rfl w7 HRI.out (HR.out.on (below_on HB5.out HB7.out)))
      have hal := put_short HRI.out (gvs_ok HR.out rfl) hp1
      clear HP1 h hs7 hown7 hb7 hu1 hp1 HB6
      obtain ⟨P, hP⟩ : ∃ P, P = askP (gvs t1) := ⟨_, rfl⟩
      rw [← hP] at hal HS7 ⊢
      have HPQ := hide hP
      clear hP
      go_wp2_with fail
      refine HP2.out.mono ?_
      rintro e w8 ⟨t2, hu2, hp2, h⟩
      obtain ⟨A8, c8, rfl, hs8, hb8⟩ := ownPost_slice h
      have ht2 : t2 = t1 := sorted_unique HRI.out hu2 HT1.out.1 hp2 HT1.out.2
      subst ht2
      rw [← HPQ.out] at hs8 ⊢
      have HSM := same_any A7 A8 c7 c8 P.length P.length P P rfl rfl w8 w8.heap.size (by omega) (by omega) (HS7.out.on hb8) hs8
      rw [sameB_refl] at HSM
      have HSM := hide HSM
      have HB8 := hide (below_on HB7.out hb8)
      clear h hs8 hb8 hu2 hp2 HP2 HS7 HT1 HB7 hal
      go_wp2_with fail
      refine HSM.out.mono ?_
      rintro e wy ⟨rfl, ny, hy⟩
      have HBY := hide (below_drawn HB8.out ⟨ny, hy⟩)
      clear hy HSM HB8
      go_wp2
      go_meet
      exact ⟨rfl, HBY.out⟩
    · have hne : (rightG (gvs l0) != 0) = true := bne_iff_ne.2 hr
      clear hr
      generalize rightG (gvs l0) = rg at *
      go_wp2_with fail
      refine HRR.out.mono ?_
      rintro e w6 ⟨rfl, hb6⟩
      have HB6 := hide hb6
      clear HRR hb6
      go_wp2
      go_meet
      exact ⟨rfl, HB6.out⟩
  case rest => as_aux_lemma =>
    obtain ⟨rfl, hbc⟩ := hcut
    obtain ⟨w6, hw6⟩ : ∃ w6, w6 = wc := ⟨_, rfl⟩
    subst hw6
    have HB6 := hide (below_on HB5.out hbc)
    have BX6 := hide (BX5.out.keep hbc)
    have HM6 := hide (HM5.out.on hbc)
    have HS4 := hide (HS4b.out.on hbc)
    have HS5b := hide (HS5.out.on hbc)
    clear hbc HB5 BX5 HM5 HS4b HS5 HRR
    obtain ⟨blt, q0, q1, q2, q3, q4, q5⟩ := BX6.out
    generalize hbb : w.heap.size + 1 = bb at *
    have HX15 : Hid (∀ w', Below w6.heap.size w6 w' → Calls Try.prog 15 #[.slice A4 bq.length d4, .slice A5 bq.length d5] w' (Quiet (.bool true) w')) := hide (fun w' hb => by
      have h := sameV_any A4 A5 d4 d5 bq.length bq.length bq bq rfl rfl w' w'.heap.size HBQ.out HBQ.out (HS4.out.on hb) (HS5b.out.on hb)
      rwa [eqL_refl] at h)
    have HX12 := hide (fun (w' : World) (hb : Below w6.heap.size w6 w') => right_any a0 cap0 l0.length l0 rfl w' (by have := HLL.out; unfold maxLen; omega) (HR.out.on (below_on HB6.out hb)))
    have HX17 := hide (fun (w' : World) (hb : Below w6.heap.size w6 w') => refright_any a0 cap0 l0.length l0 rfl w' (by have := HLL.out; unfold maxLen; omega) (HR.out.on (below_on HB6.out hb)))
    have HX20 : Hid (∀ w', Below w6.heap.size w6 w' → Calls Try.prog 20 #[.slice a0 l0.length cap0, .agg #[.int .i64 xc, .string xn, .slice xa bag.length xcap]] w' (AsksPost w' (withG (gvs l0) (xc, xn, bag)))) := hide (fun (w' : World) (hb : Below w6.heap.size w6 w') => with_any a0 cap0 l0.length l0 rfl ⟨xc, xn, xa, xcap, bag⟩ w' (by have := HLL.out; omega) (bags_of rfl (few_bags HL.out)) HXL.out (HR.out.on (below_on HB6.out hb)) (HX.out.on (below_on HB6.out hb)))
    have HX21 : Hid (∀ w', Below w6.heap.size w6 w' → Calls Try.prog 21 #[.slice a0 l0.length cap0, .agg #[.int .i64 xc, .string xn, .slice xa bag.length xcap]] w' (AsksPost w' (withG (gvs l0) (xc, xn, bag)))) := hide (fun (w' : World) (hb : Below w6.heap.size w6 w') => refwith_any a0 cap0 l0.length l0 rfl ⟨xc, xn, xa, xcap, bag⟩ w' (by have := HLL.out; omega) (bags_of rfl (few_bags HL.out)) HXL.out (HR.out.on (below_on HB6.out hb)) (HX.out.on (below_on HB6.out hb)))
    have HGM : Hid (∀ y ∈ withG (gvs l0) (xc, xn, bag), GvOk y) := hide (withG_all (gvs_ok HR.out rfl) HX.out.gv)
    have HLM : Hid ((withG (gvs l0) (xc, xn, bag)).length ≤ 700) := hide (by have := with_len (gvs l0) (xc, xn, bag); rw [gvs_len] at this; have := HLL.out; omega)
    have HX19 : Hid (∀ w', Below w6.heap.size w6 w' → Calls Try.prog 19 #[.slice a0 l0.length cap0, .slice A3 o.length c3] w' (Quiet (.bool true) w')) := hide (fun w' hb => by
      have h := sameAsks_any a0 A3 cap0 c3 l0.length o.length l0 o rfl rfl w' w'.heap.size (by have := HLL.out; unfold maxLen; omega) (by have := HLL.out; have := HOL.out; unfold maxLen; omega) (HR.out.on (below_on HB6.out hb)) (HM6.out.on hb)
      rwa [HGO.out, eqG_refl] at h)
    have HK := hide (fun (w' w'' : World) => @heldG w6 w' w'' bb (.int .i64 xc) (.string xn) (.slice xa bag.length xcap) blt)
    generalize withG (gvs l0) (xc, xn, bag) = MM at *
    generalize rightG (gvs l0) = rg at *
    have hS0 : w6.drew.cell? ⟨bb, 0, none⟩ = some (.int .i64 xc) ∧ w6.drew.cell? ⟨bb, 1, none⟩ = some (.string xn) ∧ w6.drew.cell? ⟨bb, 2, none⟩ = some (.slice xa bag.length xcap) ∧ Below w6.heap.size w6 w6.drew := ⟨q3, q4, q5, (Below.refl _ _).drew⟩
    clear q0 q1 q2 q3 q4 q5 HBQ HL HXL HX HR HS4 HS5b HM6 blt BX6 hbb
    go_wp2
    go_region_held3 (fun w' => w'.cell? ⟨bb, 0, none⟩ = some (.int .i64 xc) ∧ w'.cell? ⟨bb, 1, none⟩ = some (.string xn) ∧ w'.cell? ⟨bb, 2, none⟩ = some (.slice xa bag.length xcap) ∧ Below w6.heap.size w6 w')
      (first | assumption)
      ((first
        | (go_at_call 15; refine (HX15.out _ (And.right (And.right (And.right (by assumption))))).mono ?_; rintro e wa ⟨rfl, na, ha⟩; have hSa := HK.out _ _ (by assumption) (below_drawn (Below.refl _ _) ⟨na, ha⟩); clear ha)
        | (go_at_call 12; refine (HX12.out _ (And.right (And.right (And.right (by assumption))))).mono ?_; rintro e wb ⟨rfl, hbb⟩; have hSb := HK.out _ _ (by assumption) hbb; clear hbb)
        | (go_at_call 17; refine (HX17.out _ (And.right (And.right (And.right (by assumption))))).mono ?_; rintro e wd ⟨rfl, hbd⟩; have hSd := HK.out _ _ (by assumption) hbd; clear hbd)
        | (go_at_call 20; refine (HX20.out _ (And.right (And.right (And.right (by assumption))))).mono ?_; rintro e we ⟨ve, me, rfl, hge, hqe, hbe⟩; obtain ⟨Ae, ce, rfl, hre⟩ := hqe.req (by rw [hge]; exact HGM.out); have hSe := HK.out _ _ (by assumption) hbe; have HRE := hide hre; have HGE := hide hge; clear hge hqe hbe hre)
        | (go_at_call 21; refine (HX21.out _ (And.right (And.right (And.right (by assumption))))).mono ?_; rintro e wf ⟨vf, mf, rfl, hgf, hqf, hbf⟩; obtain ⟨Af, cf, rfl, hrf⟩ := hqf.req (by rw [hgf]; exact HGM.out); have hSf := HK.out _ _ (by assumption) hbf; have HS9 := sameAsks_any Ae Af ce cf me.length mf.length me mf rfl rfl wf wf.heap.size (by have := HLM.out; rw [← gvs_len me, HGE.out]; unfold maxLen; omega) (by have := HLM.out; rw [← gvs_len mf, hgf]; unfold maxLen; omega) (HRE.out.on hbf) hrf; rw [HGE.out, hgf, eqG_refl] at HS9; have HS9 := hide HS9; clear hgf hqf hbf hrf)
        | (go_at_call 19; refine HS9.out.mono ?_; rintro e wg ⟨rfl, ng, hg⟩; have hSg := HK.out _ _ hSf (below_drawn (Below.refl _ _) ⟨ng, hg⟩); clear hg HS9)
        | (go_at_call 19; refine (HX19.out _ (And.right (And.right (And.right (by assumption))))).mono ?_; rintro e wh ⟨rfl, nh, hh⟩; have hSh := HK.out _ _ (by assumption) (below_drawn (Below.refl _ _) ⟨nh, hh⟩); clear hh)
        | (go_at_call 3; refine (askRuns_walk _).mono ?_; rintro e wi ⟨rfl, hbi⟩; have hSi := HK.out _ _ (by assumption) hbi; clear hbi)))
    all_goals
      have HBZ := hide (below_on HB6.out hSi.2.2.2)
      go_wp2
      go_ret
      exact ⟨rfl, HBZ.out⟩
end Go.Proofs.Ytjaofdalmjiliaa
