/-
  THE WALK OF bailifflaw11.AskWith: it returns true; only new memory is laid.
-/
import Derived.Test.YtjaofdalmjiliaaAskWithP
namespace Go.Proofs.Ytjaofdalmjiliaa
open Go.RowKit
set_option linter.unusedVariables false

/-- The boxes of two parameters. -/
structure Boxes (b0 : Nat) (x y z x' y' z' : Value) (w : World) : Prop where
  lt : b0 + 1 < w.heap.size
  c0 : w.cell? ⟨b0, 0, none⟩ = some x
  c1 : w.cell? ⟨b0, 1, none⟩ = some y
  c2 : w.cell? ⟨b0, 2, none⟩ = some z
  d0 : w.cell? ⟨b0 + 1, 0, none⟩ = some x'
  d1 : w.cell? ⟨b0 + 1, 1, none⟩ = some y'
  d2 : w.cell? ⟨b0 + 1, 2, none⟩ = some z'
theorem boxes_new (w : World) (x y z x' y' z' : Value) (t t' : TypeId) : Boxes w.heap.size x y z x' y' z' ((w.alloc (.cells #[x, y, z] t)).alloc (.cells #[x', y', z'] t')) := by
  have hs : (w.alloc (.cells #[x, y, z] t)).heap.size = w.heap.size + 1 := by simp
  obtain ⟨c0, c1, c2⟩ := three_laid w x y z t
  obtain ⟨d0, d1, d2⟩ := three_laid (w.alloc (.cells #[x, y, z] t)) x' y' z' t'
  rw [hs] at d0 d1 d2
  have hb := below_new (w.alloc (.cells #[x, y, z] t)) (.cells #[x', y', z'] t')
  have hlt : w.heap.size < (w.alloc (.cells #[x, y, z] t)).heap.size := by rw [hs]; omega
  exact ⟨by simp, (hb.cell (p := ⟨w.heap.size, 0, none⟩) hlt).trans c0, (hb.cell (p := ⟨w.heap.size, 1, none⟩) hlt).trans c1, (hb.cell (p := ⟨w.heap.size, 2, none⟩) hlt).trans c2, d0, d1, d2⟩
theorem Boxes.keep {b0 : Nat} {x y z x' y' z' : Value} {w w' : World} (h : Boxes b0 x y z x' y' z' w) (hb : Below w.heap.size w w') : Boxes b0 x y z x' y' z' w' :=
  ⟨Nat.lt_of_lt_of_le h.lt hb.size, (hb.cell (p := ⟨b0, 0, none⟩) (Nat.lt_of_succ_lt h.lt)).trans h.c0, (hb.cell (p := ⟨b0, 1, none⟩) (Nat.lt_of_succ_lt h.lt)).trans h.c1, (hb.cell (p := ⟨b0, 2, none⟩) (Nat.lt_of_succ_lt h.lt)).trans h.c2,
    (hb.cell (p := ⟨b0 + 1, 0, none⟩) h.lt).trans h.d0, (hb.cell (p := ⟨b0 + 1, 1, none⟩) h.lt).trans h.d1, (hb.cell (p := ⟨b0 + 1, 2, none⟩) h.lt).trans h.d2⟩
theorem req_one {w w4 : World} {x : Gm} (hx : GOk w w.heap.size x) (hb : Below w.heap.size w w4) : Req (w4.alloc (.cells #[.int .i64 x.cat, .string x.name, .slice x.at_ x.bag.length x.cap] 40)) (w4.alloc (.cells #[.int .i64 x.cat, .string x.name, .slice x.at_ x.bag.length x.cap] 40)).heap.size (some ⟨w4.heap.size, 0, none⟩) [x] :=
  ⟨laid_one w4 x, fun y hy => by rw [List.mem_singleton] at hy; subst hy; exact hx.on (hb.alloc hb.size _)⟩
theorem few_bags {l : List Gm} (h : FewL l) : ∀ y ∈ gvs l, y.2.2.length ≤ 1000000 := by
  intro y hy
  obtain ⟨x, hx, rfl⟩ := List.mem_map.1 hy
  obtain ⟨i, hi, rfl⟩ := List.getElem_of_mem hx
  have := (h.2 i hi).2.1
  show l[i].bag.length ≤ 1000000
  omega
theorem bags_of {l : List Gm} {M : List Gv} (h : gvs l = M) (hM : ∀ y ∈ M, y.2.2.length ≤ 1000000) : ∀ x ∈ l, x.bag.length ≤ 1000000 := fun x hx => hM x.gv (by rw [← h]; exact List.mem_map_of_mem hx)
set_option maxHeartbeats 4000000 in
set_option maxRecDepth 20000 in
theorem askWith_in (a0 : Option Addr) (cap0 : Nat) (l0 : List Gm) (x1 : Gm) (cat2 : Int) (name2 : ByteArray) (must2 : Bool) (w : World) (hz0 : l0.length ≤ 140737488355328) (s0 : Req w w.heap.size a0 l0) (g1 : GOk w w.heap.size x1) (hc2 : I64 cat2) (hn2 : name2.size ≤ maxLen) :
    Calls Try.prog 7 #[.slice a0 l0.length cap0, .agg #[.int .i64 x1.cat, .string x1.name, .slice x1.at_ x1.bag.length x1.cap], .agg #[.int .i64 cat2, .string name2, .bool must2]] w (Yes w) := by
  have HR := hide s0
  have HX := hide g1
  obtain ⟨xc, xn, xa, xcap, bag⟩ := x1
  obtain ⟨w0, hw0⟩ : ∃ w0, w0 = (w.alloc (.cells #[.int .i64 xc, .string xn, .slice xa bag.length xcap] 40)).alloc (.cells #[.int .i64 cat2, .string name2, .bool must2] 27) := ⟨_, rfl⟩
  have hb0 : Below w.heap.size w w0 := hw0 ▸ below_on (below_new w _) (below_new _ _)
  have BX : Hid (Boxes w.heap.size (.int .i64 xc) (.string xn) (.slice xa bag.length xcap) (.int .i64 cat2) (.string name2) (.bool must2) w0) := hide (hw0 ▸ boxes_new w _ _ _ _ _ _ _ _)
  have HB0 := hide hb0
  have HF := hide (few_any a0 cap0 l0.length l0 rfl w0 hz0 (HR.out.on hb0))
  obtain ⟨ws, hws⟩ : ∃ ws, ws = w.heap.size := ⟨_, rfl⟩
  have hs1 : (w.alloc (.cells #[.int .i64 xc, .string xn, .slice xa bag.length xcap] 40)).heap.size = w.heap.size + 1 := by simp
  have HW0 := hide hw0
  clear s0 g1 hc2 hn2 hb0
  go_enter Try.func7, Try.ntmps7
  go_wp2_with fail
  rw [← hw0]
  clear hw0 hs1 HW0 hws ws
  refine HF.out.mono ?_
  rintro e w1 ⟨b, rfl, hfew, hb1⟩
  have BX1 := hide (BX.out.keep hb1)
  have HB1 := hide (below_on HB0.out hb1)
  have HFEW := hide hfew
  clear HF hb1 hfew BX HB0 w0
  cases b
  · go_wp2_with fail
    refine (askRuns_walk w1).mono ?_
    rintro e wz ⟨rfl, hbz⟩
    have HBZ := hide (below_on HB1.out hbz)
    clear hbz
    go_wp2
    go_ret
    exact ⟨rfl, HBZ.out⟩
  have HL := hide (HFEW.out rfl)
  clear HFEW
  have HRQ := hide (req_one HX.out HB1.out)
  have HF2 := hide (few_any (some ⟨w1.heap.size, 0, none⟩) 1 1 [⟨xc, xn, xa, xcap, bag⟩] rfl _ (by simp) HRQ.out)
  obtain ⟨blt, q0, q1, q2, q3, q4, q5⟩ := BX1.out
  go_wp2_with fail
  refine HF2.out.mono ?_
  rintro e w2 ⟨b, rfl, hfew, hb2⟩
  have hb12 := below_on (below_new w1 (.cells #[.int .i64 xc, .string xn, .slice xa bag.length xcap] 40)) hb2
  have BX2 := hide (BX1.out.keep hb12)
  have HB2 := hide (below_on HB1.out hb12)
  have HFEW := hide hfew
  clear HF2 hb2 hb12 hfew HRQ HB1 BX1 blt q0 q1 q2 q3 q4 q5
  cases b
  · go_wp2_with fail
    refine (askRuns_walk w2).mono ?_
    rintro e wz ⟨rfl, hbz⟩
    have HBZ := hide (below_on HB2.out hbz)
    clear hbz
    go_wp2
    go_ret
    exact ⟨rfl, HBZ.out⟩
  have HXL : Hid (bag.length ≤ 1000000) := hide (by have := ((HFEW.out rfl).2 0 (by simp)).2.1; simp only [List.getElem_cons_zero] at this; omega)
  clear HFEW
  have HRT := hide (right_any a0 cap0 l0.length l0 rfl w2 (by unfold maxLen; omega) (HR.out.on HB2.out))
  go_wp2_with fail
  refine HRT.out.mono ?_
  rintro e w3 ⟨rfl, hb3⟩
  have BX3 := hide (BX2.out.keep hb3)
  have HB3 := hide (below_on HB2.out hb3)
  clear HRT hb3 HB2 BX2
  by_cases hr : rightG (gvs l0) = 0
  case neg =>
    have hne : (rightG (gvs l0) != 0) = true := bne_iff_ne.2 hr
    clear hr
    generalize rightG (gvs l0) = rg at *
    go_wp2_with fail
    refine (askRuns_walk w3).mono ?_
    rintro e wz ⟨rfl, hbz⟩
    have HBZ := hide (below_on HB3.out hbz)
    clear hbz
    go_wp2
    go_ret
    exact ⟨rfl, HBZ.out⟩
  have HRI := hide hr
  rw [hr]
  clear hr
  have HRQ := hide (req_one HX.out HB3.out)
  have HRT2 := hide (right_any (some ⟨w3.heap.size, 0, none⟩) 1 1 [⟨xc, xn, xa, xcap, bag⟩] rfl _ (by simp [maxLen]) HRQ.out)
  obtain ⟨blt, q0, q1, q2, q3, q4, q5⟩ := BX3.out
  go_wp2_with fail
  refine HRT2.out.mono ?_
  rintro e w4 ⟨rfl, hb4⟩
  have hb34 := below_on (below_new w3 (.cells #[.int .i64 xc, .string xn, .slice xa bag.length xcap] 40)) hb4
  have BX4 := hide (BX3.out.keep hb34)
  have HB4 := hide (below_on HB3.out hb34)
  clear HRT2 hb4 hb34 HRQ HB3 BX3 blt q0 q1 q2 q3 q4 q5
  by_cases hr : rightG (gvs [(⟨xc, xn, xa, xcap, bag⟩ : Gm)]) = 0
  case neg =>
    have hne : (rightG (gvs [(⟨xc, xn, xa, xcap, bag⟩ : Gm)]) != 0) = true := bne_iff_ne.2 hr
    clear hr
    generalize rightG (gvs [(⟨xc, xn, xa, xcap, bag⟩ : Gm)]) = rg at *
    go_wp2_with fail
    refine (askRuns_walk w4).mono ?_
    rintro e wz ⟨rfl, hbz⟩
    have HBZ := hide (below_on HB4.out hbz)
    clear hbz
    go_wp2
    go_ret
    exact ⟨rfl, HBZ.out⟩
  have HRG : Hid (rightG [((xc, xn, bag) : Gv)] = 0) := hide hr
  rw [hr]
  clear hr
  by_cases h60 : 60 ≤ l0.length
  · have d60 : decide ((l0.length : Int) ≥ 60) = true := decide_eq_true (by omega)
    go_wp2_with fail
    refine (askRuns_walk w4).mono ?_
    rintro e wz ⟨rfl, hbz⟩
    have HBZ := hide (below_on HB4.out hbz)
    clear hbz
    go_wp2
    go_ret
    exact ⟨rfl, HBZ.out⟩
  have d60 : decide ((l0.length : Int) ≥ 60) = false := decide_eq_false (by omega)
  have hlt60 : (gvs l0).length < 60 := by rw [gvs_len]; omega
  have HWR := hide (withG_right HRI.out HRG.out hlt60)
  have HWB : Hid (bagG (withG (gvs l0) (xc, xn, bag)) xc xn = bag) := hide (withG_bag HRI.out HRG.out hlt60)
  have HWE := hide (withG_else HRI.out HRG.out hlt60 cat2 name2)
  have HWT := hide (withG_twice HRI.out HRG.out hlt60)
  have HGM : Hid (∀ y ∈ withG (gvs l0) (xc, xn, bag), GvOk y) := hide (withG_all (gvs_ok HR.out rfl) HX.out.gv)
  have HBM : Hid (∀ y ∈ withG (gvs l0) (xc, xn, bag), y.2.2.length ≤ 1000000) := hide (withG_all (few_bags HL.out) HXL.out)
  have HLM : Hid ((withG (gvs l0) (xc, xn, bag)).length ≤ 61) := hide (by have := with_len (gvs l0) (xc, xn, bag); omega)
  have HWI := hide (with_any a0 cap0 l0.length l0 rfl ⟨xc, xn, xa, xcap, bag⟩ w4 (by omega) (bags_of rfl (few_bags HL.out)) HXL.out (HR.out.on HB4.out) (HX.out.on HB4.out))
  clear HRG hlt60
  obtain ⟨blt, q0, q1, q2, q3, q4, q5⟩ := BX4.out
  go_wp2_with fail
  refine HWI.out.mono ?_
  rintro e w5 ⟨v, m, rfl, hgm0, hqm, hb5⟩
  have BX5 := hide (BX4.out.keep hb5)
  have HB5 := hide (below_on HB4.out hb5)
  have hgm : gvs m = withG (gvs l0) (xc, xn, bag) := hgm0
  obtain ⟨A, c1, rfl, hrm⟩ := hqm.req (by rw [hgm]; exact HGM.out)
  have HM := hide hrm
  have HGV := hide hgm
  have HML : Hid (m.length ≤ 61) := hide (by rw [← gvs_len, hgm]; exact HLM.out)
  have HMB := hide (bags_of hgm HBM.out)
  clear HWI hgm0 hgm hqm hb5 hrm blt q0 q1 q2 q3 q4 q5 BX4 HB4
  generalize withG (gvs l0) (xc, xn, bag) = MM at *
  have HG1 := get_any A c1 m.length m rfl xc xn false w5 (by unfold maxLen; have := HML.out; omega) HMB.out HM.out
  rw [HGV.out, HWB.out] at HG1
  have HG1 := hide HG1
  obtain ⟨blt, q0, q1, q2, q3, q4, q5⟩ := BX5.out
  go_wp2_with fail
  refine HG1.out.mono ?_
  intro e w6 h
  obtain ⟨A1, d1, rfl, hs1, hb6⟩ := got_slice h
  have BX6 := hide (BX5.out.keep hb6)
  have HB6 := hide (below_on HB5.out hb6)
  have HM6 := hide (HM.out.on hb6)
  have HS1 := hide hs1
  rw [codeG_no]
  clear HG1 h hs1 hb6 blt q0 q1 q2 q3 q4 q5 BX5 HB5 HM
  have HG2 := get_any A c1 m.length m rfl cat2 name2 must2 w6 (by unfold maxLen; have := HML.out; omega) HMB.out HM6.out
  rw [HGV.out] at HG2
  have HG2 := hide HG2
  obtain ⟨blt, q0, q1, q2, q3, q4, q5⟩ := BX6.out
  go_wp2_with fail
  refine HG2.out.mono ?_
  intro e w7 h
  obtain ⟨A2, d2, rfl, hs2, hb7⟩ := got_slice h
  have BX7 := hide (BX6.out.keep hb7)
  have HB7 := hide (below_on HB6.out hb7)
  have HM7 := hide (HM6.out.on hb7)
  have HS1b := hide (HS1.out.on hb7)
  have HS2 := hide hs2
  clear HG2 h hs2 hb7 blt q0 q1 q2 q3 q4 q5 BX6 HB6 HM6 HS1
  have HG3 := hide (get_any a0 cap0 l0.length l0 rfl cat2 name2 must2 w7 (by unfold maxLen; omega) (bags_of rfl (few_bags HL.out)) (HR.out.on HB7.out))
  obtain ⟨blt, q0, q1, q2, q3, q4, q5⟩ := BX7.out
  go_wp2_with fail
  refine HG3.out.mono ?_
  intro e w8 h
  obtain ⟨A3, d3, rfl, hs3, hb8⟩ := got_slice h
  have BX8 := hide (BX7.out.keep hb8)
  have HB8 := hide (below_on HB7.out hb8)
  have HM8 := hide (HM7.out.on hb8)
  have HS1 := hide (HS1b.out.on hb8)
  have HS2b := hide (HS2.out.on hb8)
  have HS3 := hide hs3
  clear HG3 h hs3 hb8 blt q0 q1 q2 q3 q4 q5 BX7 HB7 HM7 HS1b HS2
  have HRM := right_any A c1 m.length m rfl w8 (by unfold maxLen; have := HML.out; omega) HM8.out
  rw [HGV.out, HWR.out] at HRM
  have HRM := hide HRM
  go_wp2_with fail
  refine HRM.out.mono ?_
  rintro e w9 ⟨rfl, hb9⟩
  have BX9 := hide (BX8.out.keep hb9)
  have HB9 := hide (below_on HB8.out hb9)
  have HM9 := hide (HM8.out.on hb9)
  have HS1b := hide (HS1.out.on hb9)
  have HS2 := hide (HS2b.out.on hb9)
  have HS3b := hide (HS3.out.on hb9)
  clear HRM hb9 BX8 HB8 HM8 HS1 HS2b HS3
  have HSM := sameV_any A1 xa d1 xcap bag.length bag.length bag bag rfl rfl w9 w9.heap.size (by have := HXL.out; unfold maxLen; omega) (by have := HXL.out; unfold maxLen; omega) HS1b.out ((HX.out.2.2.2.2.1.below HB9.out).more HB9.out.size)
  rw [eqL_refl] at HSM
  have HSM := hide HSM
  obtain ⟨blt, q0, q1, q2, q3, q4, q5⟩ := BX9.out
  go_wp2_with fail
  refine HSM.out.mono ?_
  rintro e wy ⟨rfl, ny, hy⟩
  have hby : Below w9.heap.size w9 wy := below_drawn (Below.refl _ _) ⟨ny, hy⟩
  have BX10 := hide (BX9.out.keep hby)
  have HB10 := hide (below_on HB9.out hby)
  have HM10 := hide (HM9.out.on hby)
  have HS2b := hide (HS2.out.on hby)
  have HS3 := hide (HS3b.out.on hby)
  clear HSM hby hy blt q0 q1 q2 q3 q4 q5 BX9 HB9 HM9 HS1b HS2 HS3b
  have HWI := with_any A c1 m.length m rfl ⟨xc, xn, xa, xcap, bag⟩ wy (by have := HML.out; omega) HMB.out HXL.out HM10.out (HX.out.on HB10.out)
  rw [HGV.out] at HWI
  have HWI := hide HWI
  obtain ⟨blt, q0, q1, q2, q3, q4, q5⟩ := BX10.out
  go_wp2_with fail
  refine HWI.out.mono ?_
  rintro e w11 ⟨v, m2, rfl, hgm0, hqm, hb11⟩
  have hgm : gvs m2 = MM := hgm0.trans HWT.out
  obtain ⟨A5, c5, rfl, hrm⟩ := hqm.req (by rw [hgm]; exact HGM.out)
  have BX11 := hide (BX10.out.keep hb11)
  have HB11 := hide (below_on HB10.out hb11)
  have HM11 := hide (HM10.out.on hb11)
  have HM2 := hide hrm
  have HML2 : Hid (m2.length ≤ 61) := hide (by rw [← gvs_len, hgm]; exact HLM.out)
  have HS2 := hide (HS2b.out.on hb11)
  have HS3b := hide (HS3.out.on hb11)
  have HSA := sameAsks_any A5 A c5 c1 m2.length m.length m2 m rfl rfl w11 w11.heap.size (by have := HML2.out; unfold maxLen; omega) (by have := HML.out; unfold maxLen; omega) HM2.out HM11.out
  rw [hgm, HGV.out, eqG_refl] at HSA
  have HSA := hide HSA
  clear HWI hgm0 hgm hqm hb11 hrm blt q0 q1 q2 q3 q4 q5 BX10 HB10 HM10 HS2b HS3
  go_wp2_with fail
  refine HSA.out.mono ?_
  rintro e wz ⟨rfl, nz, hz⟩
  have hbz : Below w11.heap.size w11 wz := below_drawn (Below.refl _ _) ⟨nz, hz⟩
  have BX12 := hide (BX11.out.keep hbz)
  have HB12 := hide (below_on HB11.out hbz)
  have HS2b := hide (HS2.out.on hbz)
  have HS3 := hide (HS3b.out.on hbz)
  clear HSA hbz hz BX11 HB11 HM11 HM2 HS2 HS3b
  obtain ⟨blt, q0, q1, q2, q3, q4, q5⟩ := BX12.out
  have hsd := str_dec name2 xn
  by_cases hcc : cat2 = xc
  · by_cases hnn : name2 = xn
    · rw [decide_eq_true hnn] at hsd
      clear hnn
      subst hcc
      go_wp2_with fail
      refine (askRuns_walk wz).mono ?_
      rintro e wq ⟨rfl, hbz⟩
      have HBZ := hide (below_on HB12.out hbz)
      clear hbz
      go_wp2
      go_ret
      exact ⟨rfl, HBZ.out⟩
    · rw [decide_eq_false hnn] at hsd
      have hbg : bagG MM cat2 name2 = bagG (gvs l0) cat2 name2 := HWE.out (fun h => hnn h.2)
      rw [hbg] at HS2b ⊢
      clear hbg hnn
      subst hcc
      have HBQ : Hid ((bagG (gvs l0) cat2 name2).length ≤ maxLen) := hide (by
        have h : ∀ c n, (bagG (gvs l0) c n).length ≤ 1000000 := fun c n => by
          by_cases hin : idxG (gvs l0) c n < (gvs l0).length
          · rw [bag_at hin]; exact few_bags HL.out _ (List.getElem_mem _)
          · rw [bag_none hin]; simp
        have := h cat2 name2
        unfold maxLen; omega)
      generalize bagG (gvs l0) cat2 name2 = bq at *
      have HSM := sameV_any A2 A3 d2 d3 bq.length bq.length bq bq rfl rfl wz wz.heap.size HBQ.out HBQ.out HS2b.out HS3.out
      rw [eqL_refl] at HSM
      have HSM := hide HSM
      go_wp2_with fail
      refine HSM.out.mono ?_
      rintro e w13 ⟨rfl, n13, h13⟩
      have HB13 := hide (below_drawn HB12.out ⟨n13, h13⟩)
      clear HSM h13
      go_wp2_with fail
      refine (askRuns_walk w13).mono ?_
      rintro e wq ⟨rfl, hbz⟩
      have HBZ := hide (below_on HB13.out hbz)
      clear hbz
      go_wp2
      go_ret
      exact ⟨rfl, HBZ.out⟩
  · have hdc : (cat2 == xc) = false := beq_eq_false_iff_ne.2 hcc
    have hbg : bagG MM cat2 name2 = bagG (gvs l0) cat2 name2 := HWE.out (fun h => hcc h.1)
    rw [hbg] at HS2b ⊢
    clear hbg hcc
    have HBQ : Hid ((bagG (gvs l0) cat2 name2).length ≤ maxLen) := hide (by
      have h : ∀ c n, (bagG (gvs l0) c n).length ≤ 1000000 := fun c n => by
        by_cases hin : idxG (gvs l0) c n < (gvs l0).length
        · rw [bag_at hin]; exact few_bags HL.out _ (List.getElem_mem _)
        · rw [bag_none hin]; simp
      have := h cat2 name2
      unfold maxLen; omega)
    generalize bagG (gvs l0) cat2 name2 = bq at *
    have HSM := sameV_any A2 A3 d2 d3 bq.length bq.length bq bq rfl rfl wz wz.heap.size HBQ.out HBQ.out HS2b.out HS3.out
    rw [eqL_refl] at HSM
    have HSM := hide HSM
    go_wp2_with fail
    refine HSM.out.mono ?_
    rintro e w13 ⟨rfl, n13, h13⟩
    have HB13 := hide (below_drawn HB12.out ⟨n13, h13⟩)
    clear HSM h13
    go_wp2_with fail
    refine (askRuns_walk w13).mono ?_
    rintro e wq ⟨rfl, hbz⟩
    have HBZ := hide (below_on HB13.out hbz)
    clear hbz
    go_wp2
    go_ret
    exact ⟨rfl, HBZ.out⟩
end Go.Proofs.Ytjaofdalmjiliaa
