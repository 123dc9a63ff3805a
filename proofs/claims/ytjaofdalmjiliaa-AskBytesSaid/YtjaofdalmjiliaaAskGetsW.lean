/-
  THE WALK OF bailifflaw11.AskGets: it returns true; only new memory is laid.
-/
import Derived.Test.YtjaofdalmjiliaaAskGetsP
namespace Go.Proofs.Ytjaofdalmjiliaa
open Go.RowKit
set_option linter.unusedVariables false

/-- A bag that was told in new memory. -/
theorem got_slice {w : World} {bag : List V3} {must : Bool} {e : Ending} {w' : World} (h : GotPost w bag must e w') : ∃ A c, e = .returned (.tuple #[.slice A bag.length c, .int .i64 (codeG bag must)]) ∧ Sl w' w'.heap.size A (cellsV bag) ∧ Below w.heap.size w w' := by
  obtain ⟨v, rfl, hown, hb⟩ := h
  obtain ⟨A, c, rfl, _, hs, _⟩ := own_slice hown
  exact ⟨A, c, rfl, hs, hb⟩
/-- A law's law: true, in new memory. -/
def Yes (w : World) (e : Ending) (w' : World) : Prop := e = .returned (.bool true) ∧ Below w.heap.size w w'
/-- Behind the append of what lies elsewhere. -/
theorem req_snoc {w5 w6 : World} {B : Nat} {v v' : Value} {l : List Gm} {x : Gm} (hq : NewReq w5 B v l) (hl : ∀ y ∈ gvs l, GvOk y) (hx : GOk w6 w6.heap.size x) (hg : w5.grownBy w6 v.ownBlock) (hr : w6.ownsRow B 40 3 v' (l.length + 1) (cellsG l ++ cellsG [x])) :
    ∃ A c, v' = .slice A (l.length + 1) c ∧ Req w6 w6.heap.size A (l ++ [x]) := by
  obtain ⟨A, c, e, hnc, hs, _⟩ := own_slice hr
  refine ⟨A, c, e, by rw [cellsG_append]; exact hs, fun y hy => ?_⟩
  rcases List.mem_append.1 hy with hy | hy
  · exact NewG.ok (World.ownsRow.kept (hq.2 y hy) hg (own_ne (hq.2 y hy) hq.1 (by decide))) (hl y.gv (List.mem_map_of_mem hy))
  · rw [List.mem_singleton] at hy
    subst hy
    exact hx
theorem laid_one (w4 : World) (x : Gm) : Sl (w4.alloc (.cells #[.int .i64 x.cat, .string x.name, .slice x.at_ x.bag.length x.cap] 40)) (w4.alloc (.cells #[.int .i64 x.cat, .string x.name, .slice x.at_ x.bag.length x.cap] 40)).heap.size (some ⟨w4.heap.size, 0, none⟩) (cellsG [x]) := by
  have h : (w4.alloc (.cells #[.int .i64 x.cat, .string x.name, .slice x.at_ x.bag.length x.cap] 40)).heap.size = w4.heap.size + 1 := by simp
  rw [h]
  exact Sl.laid w4 _ _ _ _ rfl
theorem gvs_ok {w : World} {B : Nat} {a : Option Addr} {l l' : List Gm} (h : Req w B a l) (e : gvs l' = gvs l) : ∀ y ∈ gvs l', GvOk y := by
  intro y hy
  rw [e] at hy
  obtain ⟨x, hx, rfl⟩ := List.mem_map.1 hy
  exact (h.2 x hx).gv
set_option maxHeartbeats 2000000 in
set_option maxRecDepth 20000 in
theorem askGets_in (a0 : Option Addr) (cap0 : Nat) (l0 : List Gm) (n1 : Int) (w : World) (hz0 : l0.length ≤ 140737488355328) (s0 : Req w w.heap.size a0 l0) (lo1 : -9223372036854775808 ≤ n1) (hi1 : n1 ≤ 9223372036854775807) :
    Calls Try.prog 5 #[.slice a0 l0.length cap0, .int .i64 n1] w (Yes w) := by
  have HR := hide s0
  have HF := hide (few_any a0 cap0 l0.length l0 rfl w hz0 s0)
  clear s0
  go_enter Try.func5, Try.ntmps5
  go_wp2_with fail
  refine HF.out.mono ?_
  rintro e w1 ⟨b, rfl, hfew, hb1⟩
  have HB1 := hide hb1
  have HFEW := hide hfew
  clear HF hb1 hfew
  cases b
  · go_wp2_with fail
    refine (askRuns_walk w1).mono ?_
    rintro e w2 ⟨rfl, hb2⟩
    have HB2 := hide (below_on HB1.out hb2)
    clear hb2
    go_wp2
    go_ret
    exact ⟨rfl, HB2.out⟩
  have HL := hide (HFEW.out rfl)
  clear HFEW
  have HRT := hide (right_any a0 cap0 l0.length l0 rfl w1 (by unfold maxLen; omega) (HR.out.on HB1.out))
  go_wp2_with fail
  refine HRT.out.mono ?_
  rintro e w2 ⟨rfl, hb2⟩
  have HB2 := hide (below_on HB1.out hb2)
  clear HRT hb2 HB1
  by_cases hr : rightG (gvs l0) = 0
  · have HRI := hide hr
    rw [hr]
    clear hr
    go_wp2
    go_loopw [28] (fun i wr => ∃ k : Nat, k ≤ l0.length ∧ i = .int .i64 k ∧ Hid (Below w.heap.size w wr)) (fun i _ => l0.length - (intOf i).toNat)
    case atStart => exact ⟨0, by omega, rfl, HB2⟩
    case round =>
      clear HB2
      obtain ⟨k, hk, rfl, HB⟩ := hrel
      by_cases hlt : k < l0.length
      · obtain ⟨b, off, rfl, hb, x0, x1, x2⟩ := (HR.out.below HB.out).at hlt
        have HX := hide (HR.out.2 l0[k] (List.getElem_mem _))
        have HFX := hide (HL.out.2 k hlt)
        have hbg := bag_of_right HRI.out hlt
        generalize l0[k] = x at *
        obtain ⟨xc, xn, xa, xcap, bag⟩ := x
        simp only at x0 x1 x2 hbg
        have hz := three_laid wr (.int .i64 xc) (.string xn) (.slice xa bag.length xcap) 40
        have hsz : wr.heap.size < (wr.alloc (.cells #[.int .i64 xc, .string xn, .slice xa bag.length xcap] 40)).heap.size := by simp
        have HB2 : Hid (Below w.heap.size w (wr.alloc (.cells #[.int .i64 xc, .string xn, .slice xa bag.length xcap] 40))) := hide (HB.out.alloc HB.out.size _)
        have HG1 := get_any (some ⟨b, off, none⟩) cap0 l0.length l0 rfl xc xn false (wr.alloc (.cells #[.int .i64 xc, .string xn, .slice xa bag.length xcap] 40)) (by unfold maxLen; omega) (fun y hy => by obtain ⟨i, hi, rfl⟩ := List.getElem_of_mem hy; have := (HL.out.2 i hi).2.1; omega) (HR.out.on HB2.out)
        rw [hbg] at HG1
        have HG1 := hide HG1
        obtain ⟨z0, z1, z2⟩ := hz
        go_wp2_with fail
        clear x0 x1 x2
        refine HG1.out.mono ?_
        intro e w2 h
        obtain ⟨A1, c1, rfl, hs1, hb2⟩ := got_slice h
        have HB3 := hide (below_on HB2.out hb2)
        have y0 := (hb2.cell (p := ⟨wr.heap.size, 0, none⟩) hsz).trans z0
        have y1 := (hb2.cell (p := ⟨wr.heap.size, 1, none⟩) hsz).trans z1
        have y2 := (hb2.cell (p := ⟨wr.heap.size, 2, none⟩) hsz).trans z2
        have hsz2 := Nat.lt_of_lt_of_le hsz hb2.size
        have HS1 := hide hs1
        rw [codeG_no]
        clear HG1 h hs1 hb2 z0 z1 z2 hsz HB2
        have HG2 := get_any (some ⟨b, off, none⟩) cap0 l0.length l0 rfl xc xn true w2 (by unfold maxLen; omega) (fun y hy => by obtain ⟨i, hi, rfl⟩ := List.getElem_of_mem hy; have := (HL.out.2 i hi).2.1; omega) (HR.out.on HB3.out)
        rw [hbg] at HG2
        have HG2 := hide HG2
        clear hbg
        go_wp2_with fail
        refine HG2.out.mono ?_
        intro e w3 h
        obtain ⟨A2, c2, rfl, hs2, hb3⟩ := got_slice h
        have HB4 := hide (below_on HB3.out hb3)
        have z0 := (hb3.cell (p := ⟨wr.heap.size, 0, none⟩) hsz2).trans y0
        have z1 := (hb3.cell (p := ⟨wr.heap.size, 1, none⟩) hsz2).trans y1
        have z2 := (hb3.cell (p := ⟨wr.heap.size, 2, none⟩) hsz2).trans y2
        have HS2 := hide (HS1.out.on hb3)
        have HSX := hide ((HX.out.2.2.2.2.1.below HB4.out).more HB4.out.size)
        have HSM := hide (sameV_any A1 xa c1 xcap bag.length bag.length bag bag rfl rfl w3 w3.heap.size (by unfold maxLen; have := HFX.out.2.1; simp only at this; omega) (by unfold maxLen; have := HFX.out.2.1; simp only at this; omega) HS2.out HSX.out)
        rw [eqL_refl] at HSM
        clear HG2 h hs2 hb3 y0 y1 y2 hsz2 HB3 HS1 HS2 HSX z0 z1
        by_cases hnil : bag = []
        · have h0 : ((bag.length : Int) == 0) = true := by rw [hnil]; rfl
          rw [codeG_yes bag hnil]
          clear hnil
          go_wp2_with fail
          refine HSM.out.mono ?_
          rintro e w4 ⟨rfl, n, rfl⟩
          have HB5 : Hid (Below w.heap.size w (w3.drewN n)) := hide (below_drawn HB4.out ⟨n, rfl⟩)
          clear HSM
          go_wp2
          go_roundw
          case rel => exact ⟨k + 1, by omega, by go_num, HB5⟩
          case measure => simp [intOf]; omega
        · have h0 : ((bag.length : Int) == 0) = false := beq_eq_false_iff_ne.2 (fun h => hnil (List.eq_nil_of_length_eq_zero (by omega)))
          rw [codeG_full bag true hnil]
          clear hnil
          go_wp2_with fail
          refine HSM.out.mono ?_
          rintro e w4 ⟨rfl, n, rfl⟩
          have HB5 : Hid (Below w.heap.size w (w3.drewN n)) := hide (below_drawn HB4.out ⟨n, rfl⟩)
          clear HSM
          go_wp2
          go_roundw
          case rel => exact ⟨k + 1, by omega, by go_num, HB5⟩
          case measure => simp [intOf]; omega
      · obtain rfl : k = l0.length := by omega
        have hbg := bag_absent HRI.out 9 (by decide) ⟨#[120]⟩
        have HG1 := get_any a0 cap0 l0.length l0 rfl 9 ⟨#[120]⟩ false wr (by unfold maxLen; omega) (fun y hy => by obtain ⟨i, hi, rfl⟩ := List.getElem_of_mem hy; have := (HL.out.2 i hi).2.1; omega) (HR.out.on HB.out)
        rw [hbg] at HG1
        have HG1 := hide HG1
        go_wp2_with fail
        refine HG1.out.mono ?_
        intro e w2 h
        obtain ⟨A1, c1, rfl, hs1, hb2⟩ := got_slice h
        have HB3 := hide (below_on HB.out hb2)
        rw [codeG_no]
        clear HG1 h hs1 hb2
        have HG2 := get_any a0 cap0 l0.length l0 rfl 9 ⟨#[120]⟩ true w2 (by unfold maxLen; omega) (fun y hy => by obtain ⟨i, hi, rfl⟩ := List.getElem_of_mem hy; have := (HL.out.2 i hi).2.1; omega) (HR.out.on HB3.out)
        rw [hbg] at HG2
        have HG2 := hide HG2
        clear hbg
        go_wp2_with fail
        refine HG2.out.mono ?_
        intro e w3 h
        obtain ⟨A2, c2, rfl, hs2, hb3⟩ := got_slice h
        have HB4 := hide (below_on HB3.out hb3)
        rw [codeG_yes [] rfl]
        clear HG2 h hs2 hb3 HB3 HB
        by_cases hz : l0.length = 0
        · have h0 : ((l0.length : Int) == 0) = true := by rw [hz]; rfl
          go_wp2_with fail
          refine (askRuns_walk w3).mono ?_
          rintro e w4 ⟨rfl, hb4⟩
          have HB5 := hide (below_on HB4.out hb4)
          clear hb4
          go_wp2
          go_ret
          exact ⟨rfl, HB5.out⟩
        · have h0 : ((l0.length : Int) == 0) = false := beq_eq_false_iff_ne.2 (by omega)
          have HA := hide (asks_any a0 cap0 l0.length l0 rfl w3 (by have := HL.out.1; omega) (fun y hy => by obtain ⟨i, hi, rfl⟩ := List.getElem_of_mem hy; have := (HL.out.2 i hi).2.1; omega) (HR.out.on HB4.out))
          go_wp2_with fail
          refine HA.out.mono ?_
          rintro e w4 ⟨v, l', rfl, hg, hn, hb4⟩
          have HB4s := hide hb4.size
          have HW3 := hide HB4.out.size
          have HB5 := hide (below_on HB4.out hb4)
          have HQ := hide hn
          have HGV := hide hg
          clear HA hn hg hb4 HB4
          obtain ⟨j, hjl, hje⟩ : ∃ j : Nat, j < l0.length ∧ within n1 0 ((l0.length : Int) - 1) = (j : Int) := by
            have h1 := within_lo n1 0 ((l0.length : Int) - 1) (by omega)
            have h2 := within_hi n1 0 ((l0.length : Int) - 1) (by omega)
            exact ⟨(within n1 0 ((l0.length : Int) - 1)).toNat, by omega, by omega⟩
          have HWI := within_any n1 0 ((l0.length : Int) - 1) w4 (by omega) (by omega) (by have := HL.out.1; omega)
          rw [hje] at HWI
          have HWI := hide HWI
          obtain ⟨b, off, rfl, hb, x0, x1, x2⟩ := (HR.out.below HB5.out).at hjl
          have HTW := hide (right_twice HRI.out (j := j) (by rw [gvs_len]; exact hjl))
          have HX := hide (HR.out.2 l0[j] (List.getElem_mem _))
          have hgj := gvs_at l0 j hjl
          rw [hgj] at HTW
          clear hje hgj
          generalize l0[j] = x at *
          obtain ⟨xc, xn, xa, xcap, bag⟩ := x
          simp only at x0 x1 x2
          have hll : l'.length = l0.length := by rw [← gvs_len l', HGV.out, gvs_len]
          have hnb := below_new w4 (.cells #[.int .i64 xc, .string xn, .slice xa bag.length xcap] 40)
          have HQ5 := hide (HQ.out.keep hnb)
          have hs5 : w3.heap.size ≤ (w4.alloc (.cells #[.int .i64 xc, .string xn, .slice xa bag.length xcap] 40)).heap.size := by have := HQ.out.1; have := HB4s.out; simp; omega
          have hsl5 := laid_one w4 ⟨xc, xn, xa, xcap, bag⟩
          have hbw5 : Below w.heap.size w (w4.alloc (.cells #[.int .i64 xc, .string xn, .slice xa bag.length xcap] 40)) := HB5.out.alloc HB5.out.size _
          have HS5 := hide hs5
          have HSL5 := hide hsl5
          have HBW5 := hide hbw5
          have HNB := hide hnb
          have hw34 := HB4s.out
          clear hs5 hsl5 hbw5 hnb
          obtain ⟨j0, hi, hz0', hz1, hz2⟩ := info_parts infoG
          have Gi := hide hi
          have Gz0 := hide hz0'
          have Gz1 := hide hz1
          have Gz2 := hide hz2
          clear hi hz0' hz1 hz2
          have HLL := hide hll
          clear hll
          go_wp2_with (first
            | (go_at_call 13; refine HWI.out.mono ?_; rintro e w5 ⟨rfl, rfl⟩; clear HWI)
            | (at_builtin; go_loud (refine wpList_app _ rfl (.tmp 101) (.tmp 110) 32 rfl w3.heap.size 40 j0 (.agg #[.int .i64 0, .string ByteArray.empty, .slice none 0 0]) 3 48 Try.underlying32 Gi.out Gz0.out Gz1.out Gz2.out rfl (by decide) _ l'.length (cellsG l') rfl HQ5.out.1 _ (some ⟨w4.heap.size, 0, none⟩) 1 1 (cellsG [⟨xc, xn, xa, xcap, bag⟩]) rfl rfl HSL5.out (one_cellsG _) (by unfold maxLen; have := HL.out.1; have := HLL.out; omega) (by have := HL.out.1; have := HLL.out; omega) HS5.out ?_; intro v2 w6 hown2 hg2 hat2; have HB6 := hide (own_below HQ5.out.1 (Below.refl _ _) hg2 (Nat.le_refl _) HS5.out); have hb6 : Below w.heap.size w w6 := HBW5.out.trans (HB6.out.mono (Nat.le_trans HW3.out (Nat.le_refl _))); obtain ⟨A6, c6, rfl, hrq⟩ := req_snoc HQ5.out (gvs_ok HR.out HGV.out) ((HX.out.below hb6).more hb6.size) hg2 hown2; have HB7 := hide hb6; have HRQ := hide hrq; clear hb6 hrq hown2 hg2 hat2 x0 x1 x2)))
          have HRR := hide (right_any A6 c6 (l'.length + 1) (l' ++ [⟨xc, xn, xa, xcap, bag⟩]) (by simp) w6 (by unfold maxLen; have := HL.out.1; have := HLL.out; simp; omega) HRQ.out)
          rw [gvs_append, HGV.out, show gvs [(⟨xc, xn, xa, xcap, bag⟩ : Gm)] = [Gm.gv ⟨xc, xn, xa, xcap, bag⟩] from rfl, HTW.out, gvs_len] at HRR
          refine HRR.out.mono ?_
          rintro e w7 ⟨rfl, hb7⟩
          have HB8 := hide (below_on HB7.out hb7)
          clear HRR hb7 HB7 HRQ
          have hl'' : ((l'.length : Int)) = (l0.length : Int) := by rw [HLL.out]
          by_cases h64 : l0.length = 64
          · rw [if_pos h64]
            have d64 : decide ((l'.length : Int) + 1 > 64) = true := decide_eq_true (by omega)
            go_wp2_with fail
            refine (askRuns_walk w7).mono ?_
            rintro e w8 ⟨rfl, hb8⟩
            have HB9 := hide (below_on HB8.out hb8)
            clear hb8
            go_wp2
            go_ret
            exact ⟨rfl, HB9.out⟩
          · rw [if_neg h64]
            go_wp2_with fail
            refine (askRuns_walk w7).mono ?_
            rintro e w8 ⟨rfl, hb8⟩
            have HB9 := hide (below_on HB8.out hb8)
            clear hb8
            go_wp2
            go_ret
            exact ⟨rfl, HB9.out⟩
  · have hne : (rightG (gvs l0) != 0) = true := bne_iff_ne.2 hr
    clear hr
    generalize rightG (gvs l0) = rg at *
    go_wp2_with fail
    refine (askRuns_walk w2).mono ?_
    rintro e w3 ⟨rfl, hb3⟩
    have HB3 := hide (below_on HB2.out hb3)
    clear hb3
    go_wp2
    go_ret
    exact ⟨rfl, HB3.out⟩
end Go.Proofs.Ytjaofdalmjiliaa
