/-
  CONTRACT OF ask.Put: the bytes of the row in order.
-/
import Derived.Test.YtjaofdalmjiliaaAkPutP
import Derived.Test.YtjaofdalmjiliaaSortE
import Derived.Deep.RegionHeld3
namespace Go.Proofs.Ytjaofdalmjiliaa
open Go.RowKit
set_option linter.unusedVariables false

theorem own_sl {w : World} {B : Nat} {e : TypeId} {size n m c : Nat} {A : Option Addr} {xs : List Value} (h : w.ownsRow B e size (.slice A m c) n xs) : Sl w w.heap.size A xs := by
  obtain ⟨A', c', e, _, hs, _⟩ := own_slice h
  injection e with e1 _ _
  rw [e1]
  exact hs
theorem three_keep {w0 w w' : World} {b : Nat} {x y z : Value} (h : w.cell? ⟨b, 0, none⟩ = some x ∧ w.cell? ⟨b, 1, none⟩ = some y ∧ w.cell? ⟨b, 2, none⟩ = some z ∧ Below w0.heap.size w0 w) (hlt : b < w.heap.size) (hb : Below w.heap.size w w') :
    w'.cell? ⟨b, 0, none⟩ = some x ∧ w'.cell? ⟨b, 1, none⟩ = some y ∧ w'.cell? ⟨b, 2, none⟩ = some z ∧ Below w0.heap.size w0 w' :=
  ⟨(hb.cell (p := ⟨b, 0, none⟩) hlt).trans h.1, (hb.cell (p := ⟨b, 1, none⟩) hlt).trans h.2.1, (hb.cell (p := ⟨b, 2, none⟩) hlt).trans h.2.2.1, h.2.2.2.trans (hb.mono h.2.2.2.size)⟩
/-- Elements of a row of one's own, whose bags lie somewhere. -/
def RowOf (w : World) (B : Nat) (v : Value) (t : List Gm) : Prop := w.ownsRow B 40 3 v t.length (cellsG t)
theorem perm_fit {l t : List Gm} (hp : t.Perm l) (h : ∀ y ∈ gvs l, Fit y) {k : Nat} (hk : k < t.length) : Fit t[k].gv := h _ (List.mem_map_of_mem (hp.mem_iff.1 (List.getElem_mem hk)))
set_option maxHeartbeats 4000000 in
set_option maxRecDepth 20000 in
theorem askput_any (a : Option Addr) (c n : Nat) (l : List Gm) (hn : l.length = n) (w : World) (hri : rightG (gvs l) = 0) (hr : Req w w.heap.size a l) :
    Calls Try.prog 10 #[.slice a n c] w (fun e w' => ∃ t, Up t ∧ t.Perm l ∧ BytesPost w (askP (gvs t)) e w') := by
  subst hn
  have hl64 : l.length ≤ 64 := by have := ((right_ok _).1 hri).1; rwa [gvs_len] at this
  have HFIT := hide (fits_of hri (gvs_ok hr (l' := l) rfl))
  have HR := hide hr
  have HC := hide (cloneg_any a c l.length l rfl w (by omega) hr.1)
  clear hr hri
  go_enter Try.func10, Try.ntmps10
  go_wp2_with fail
  refine HC.out.mono ?_
  rintro e w1 ⟨v, rfl, hown, hb1⟩
  have hsw := hide (sort_own w.heap.size v l w1 (by omega) hown)
  unfold cmpV at hsw
  have HB1 := hide hb1
  clear HC hown hb1
  go_wp2_with fail
  refine hsw.out.mono ?_
  rintro e w2 ⟨rfl, t, hup, hpm, hown, hb2⟩
  have hb2' : Below w.heap.size w w2 := HB1.out.trans hb2
  have HB2 := hide hb2'
  have HUP := hide (⟨hup, hpm⟩ : _ ∧ _)
  have htl : t.length = l.length := hpm.length_eq
  have HRW := hide hown
  have HN := hide (num_any none 0 0 (l.length : Int) [] rfl w2 (by omega) (by omega) (by decide) Sl.nil)
  obtain ⟨A0, ca, hva, _, hsl, _⟩ := own_slice hown
  rw [htl] at hva
  subst hva
  clear hsw hown hb2 hb2' hup hpm hsl HB1
  go_wp2_with fail
  refine HN.out.mono ?_
  intro e w3 h
  obtain ⟨A3, c3, rfl, hs3, hown3, hb3⟩ := bytes_slice h
  have HB3 := hide (below_on HB2.out hb3)
  have HRW3 := hide (own_keep HRW.out hb3)
  have HO3 := hide (own_base hown3 HB2.out.size)
  have HTL := hide htl
  have HASK : Hid (askP (gvs t) = numP (l.length : Int) ++ (gvs t).flatMap gvP) := hide (by unfold askP; rw [gvs_len, htl])
  rw [List.nil_append] at HO3
  clear HN h hs3 hown3 hb3 HB2 HRW htl
  rw [List.nil_append]
  have h10 := numP_10 (l.length : Int) (by omega) (by omega)
  generalize numP (l.length : Int) = P0 at *
  go_wp2
  go_loopw [4, 18] (fun b i wr => ∃ (k : Nat) (bs : List UInt8) (A : Option Addr) (cb : Nat), k ≤ l.length ∧ i = .int .i64 k ∧ b = .slice A bs.length cb ∧ Hid (bs = P0 ++ ((gvs t).take k).flatMap gvP) ∧ Hid (bs.length ≤ 10 + 1400 * k) ∧ Hid (wr.ownsRow w.heap.size 5 1 (.slice A bs.length cb) bs.length (vbytes bs)) ∧ Hid (wr.ownsRow w.heap.size 40 3 (.slice A0 l.length ca) t.length (cellsG t)) ∧ Hid (Below w.heap.size w wr)) (fun _ i _ => l.length - (intOf i).toNat)
  case atStart => exact ⟨0, P0, A3, c3, by omega, rfl, rfl, hide (by simp), hide (by omega), HO3, HRW3, HB3⟩
  case round =>
    clear HRW3 HB3 HO3
    obtain ⟨k, bs, A, cb, hk, rfl, rfl, HBS, HBL, HO, HRW, HB⟩ := hrel
    by_cases hlt : k < l.length
    · have hkt : k < t.length := by have := HTL.out; omega
      have hst := own_sl HRW.out
      obtain ⟨bq, off, rfl, hb, x0, x1, x2⟩ := Sl.three gcell hst hkt
      have hmem : t[k] ∈ l := HUP.out.2.mem_iff.1 (List.getElem_mem hkt)
      have HX := hide (HR.out.2 t[k] hmem)
      have HFX := hide (HFIT.out t[k].gv (List.mem_map_of_mem hmem))
      have HST := hide (by
        have := flat_step gvP (gvs t) k (by rw [gvs_len]; exact hkt)
        rwa [gvs_at t k hkt] at this : ((gvs t).take (k + 1)).flatMap gvP = ((gvs t).take k).flatMap gvP ++ gvP t[k].gv)
      clear hst hmem
      generalize t[k] = x at *
      obtain ⟨xc, xn, xa, xcap, bag⟩ := x
      simp only [gcell] at x0 x1 x2
      have hnew := below_new wr (.cells #[.int .i64 xc, .string xn, .slice xa bag.length xcap] 40)
      obtain ⟨w4, hw4⟩ : ∃ w4, w4 = wr.alloc (.cells #[.int .i64 xc, .string xn, .slice xa bag.length xcap] 40) := ⟨_, rfl⟩
      obtain ⟨z0, z1, z2⟩ := three_laid wr (.int .i64 xc) (.string xn) (.slice xa bag.length xcap) 40
      have hsz : wr.heap.size < (wr.alloc (.cells #[.int .i64 xc, .string xn, .slice xa bag.length xcap] 40)).heap.size := by simp
      rw [← hw4] at hnew z0 z1 z2 hsz
      have HNEW := hide hnew
      have HO4 := hide (own_keep HO.out hnew)
      have hbl : bs.length ≤ 100000 := by have := HBL.out; omega
      have hsb := own_sl HO4.out
      have HN1 := hide (num_any A cb bs.length xc bs rfl w4.drew (by have := HFX.out.cat; simp only [Gm.gv] at this; omega) (by have := HFX.out.cat; simp only [Gm.gv] at this; omega) (by omega) hsb)
      have h10 := numP_10 xc (by have := HFX.out.cat; simp only [Gm.gv] at this; omega) (by have := HFX.out.cat; simp only [Gm.gv] at this; omega)
      have hB1 : (bs ++ numP xc).length ≤ bs.length + 10 := by rw [List.length_append]; omega
      have hnm : xn.size ≤ 16 := HFX.out.name
      have HS0 : Hid (w4.drew.cell? ⟨wr.heap.size, 0, none⟩ = some (.int .i64 xc) ∧ w4.drew.cell? ⟨wr.heap.size, 1, none⟩ = some (.string xn) ∧ w4.drew.cell? ⟨wr.heap.size, 2, none⟩ = some (.slice xa bag.length xcap) ∧ Below w4.heap.size w4 w4.drew) := hide ⟨z0, z1, z2, (Below.refl _ _).drew⟩
      have HXT := hide (by unfold gvP; simp only [Gm.gv, List.append_assoc] : bs ++ gvP (Gm.gv ⟨xc, xn, xa, xcap, bag⟩) = (((bs ++ numP xc) ++ textP xn.data.toList) ++ numP (bag.length : Int)) ++ bag.flatMap valP)
      generalize bs ++ numP xc = B1 at *
      have h11 := textP_short xn 16 hnm (by omega)
      have hB2 : (B1 ++ textP xn.data.toList).length ≤ bs.length + 36 := by rw [List.length_append]; omega
      have HTX := hide (fun A1 cA1 w5 hs1 => text_any A1 cA1 B1.length xn B1 rfl w5 (by omega) (by omega) hs1)
      generalize B1 ++ textP xn.data.toList = B2 at *
      have h12 := numP_10 (bag.length : Int) (by omega) (by have := HFX.out.bag; simp only [Gm.gv] at this; omega)
      have hB3 : (B2 ++ numP (bag.length : Int)).length ≤ bs.length + 46 := by rw [List.length_append]; omega
      have hbag : bag.length ≤ 16 := HFX.out.bag
      have HNX := hide (fun A2 cA2 w6 hs2 => num_any A2 cA2 B2.length (bag.length : Int) B2 rfl w6 (by omega) (by omega) (by omega) hs2)
      generalize B2 ++ numP (bag.length : Int) = B3 at *
      have HSZ0 : Hid (wr.heap.size < w4.drew.heap.size) := hide hsz
      have HW4 := hide hw4
      clear hsb z0 z1 z2 hnew h10 h11 h12 hw4
      go_wp2_with fail
      rw [← HW4.out]
      have hS0 := HS0.out
      go_region_held3 (fun w' => w'.cell? ⟨wr.heap.size, 0, none⟩ = some (.int .i64 xc) ∧ w'.cell? ⟨wr.heap.size, 1, none⟩ = some (.string xn) ∧ w'.cell? ⟨wr.heap.size, 2, none⟩ = some (.slice xa bag.length xcap) ∧ Below w4.heap.size w4 w')
        (first | assumption)
        ((first
          | (go_at_call 30; refine HN1.out.mono ?_; intro e w5 h; obtain ⟨A1, cA1, rfl, hs1, hown1, hb1⟩ := bytes_slice h; have hk1 := three_keep HS0.out HSZ0.out hb1; have HT1 := hide (HTX.out A1 cA1 w5 hs1); have HS5 := hide (Nat.lt_of_lt_of_le HSZ0.out hb1.size); clear h hs1 hown1 hb1)
          | (go_at_call 31; refine HT1.out.mono ?_; intro e w6 h; obtain ⟨A2, cA2, rfl, hs2, hown2, hb2⟩ := bytes_slice h; have hk2 := three_keep hk1 HS5.out hb2; have HSL2 := hide hs2; have HOW2 := hide hown2; have HS6 := hide (Nat.lt_of_lt_of_le HS5.out hb2.size); clear h hs2 hown2 hb2)))
      all_goals
        have hz2 := hk2.2.2.1
        have HB6 := hide (below_on HNEW.out (hk2.2.2.2.mono (Nat.le_refl _)))
        have HBW6 := hide (below_on HB.out HB6.out)
        have HN6 := hide (HNX.out A2 cA2 w6 HSL2.out)
        clear hk1 hk2 hS0 HS0 HTX HNX HN1 HSZ0
        go_wp2_with fail
        refine HN6.out.mono ?_
        intro e w7 h
        obtain ⟨A7, c7, rfl, hs7, hown7, hb7⟩ := bytes_slice h
        have y2 := (hb7.cell (p := ⟨wr.heap.size, 2, none⟩) HS6.out).trans hz2
        have HB7 := hide (below_on HBW6.out hb7)
        have HO7 := hide (own_base hown7 HBW6.out.size)
        have HRW7 := hide (own_keep (own_keep HRW.out HB6.out) hb7)
        clear HN6 h hs7 hown7 hb7 hz2 HO HO4 HB HSL2 HOW2 HB6 HBW6 HRW x0 x1 x2
        go_wp2
        clear y2
        generalize wr.heap.size = nb
        go_loopw [4, 37] (fun b i wr => ∃ (j : Nat) (bs' : List UInt8) (A : Option Addr) (cb : Nat), j ≤ bag.length ∧ i = .int .i64 j ∧ b = .slice A bs'.length cb ∧ Hid (bs' = B3 ++ (bag.take j).flatMap valP) ∧ Hid (bs'.length ≤ B3.length + 84 * j) ∧ Hid (wr.ownsRow w.heap.size 5 1 (.slice A bs'.length cb) bs'.length (vbytes bs')) ∧ Hid (wr.ownsRow w.heap.size 40 3 (.slice (some ⟨bq, off, none⟩) l.length ca) t.length (cellsG t)) ∧ Hid (Below w.heap.size w wr)) (fun _ i _ => bag.length - (intOf i).toNat)
        case atStart => exact ⟨0, B3, A7, c7, by omega, rfl, rfl, hide (by simp), hide (by omega), HO7, HRW7, HB7⟩
        case round =>
          clear HO7 HRW7 HB7
          obtain ⟨j, bs', A, cb, hj, rfl, rfl, HBS', HBL', HO, HRW, HB⟩ := hrel
          by_cases hlt2 : j < bag.length
          · obtain ⟨b', off', rfl, hb', y0, y1, y2⟩ := (HX.out.2.2.2.2.1.below HB.out).val hlt2
            have hsv := HFX.out.vals bag[j] (List.getElem_mem _)
            have hst2 := flat_step valP bag j hlt2
            have h84 := valP_short hsv
            have HSV := hide hsv.v
            generalize bag[j] = v at *
            obtain ⟨v0, v1, v2⟩ := v
            simp only at y0 y1 y2
            have hnew := below_new wr (.cells #[.int .i64 v0, .int .i64 v1, .string v2] 35)
            have hso := own_sl (own_keep HO.out hnew)
            have HVP := vput_any A cb bs'.length bs' rfl (v0, v1, v2) HSV.out _ (by have := HBL'.out; omega) hso
            simp only at HVP
            have HE2 : Hid (bs' ++ valP (v0, v1, v2) = B3 ++ (bag.take (j + 1)).flatMap valP) := hide (by rw [hst2, HBS'.out, List.append_assoc])
            have HL2 : Hid ((bs' ++ valP (v0, v1, v2)).length ≤ B3.length + 84 * (j + 1)) := hide (by rw [List.length_append]; have := HBL'.out; omega)
            have HVP := hide HVP
            have HNW := hide hnew
            generalize bs' ++ valP (v0, v1, v2) = B4 at *
            clear hsv hst2 h84 hnew hso
            go_wp2_with fail
            refine HVP.out.mono ?_
            intro e w8 h
            obtain ⟨A8, c8, rfl, hs8, hown8, hb8⟩ := bytes_slice h
            have hb9 := below_on HNW.out hb8
            have HB9 := hide (below_on HB.out hb9)
            have HO9 := hide (own_base hown8 (Nat.le_trans HB.out.size HNW.out.size))
            have HRW9 := hide (own_keep HRW.out hb9)
            clear HVP h hs8 hown8 hb8 hb9 y0 y1 y2 HNW HB HO HRW HBS' HBL'
            go_wp2
            go_roundw
            case rel => exact ⟨j + 1, B4, A8, c8, by omega, by go_num, rfl, HE2, HL2, HO9, HRW9, HB9⟩
            case measure => simp [intOf]; omega
          · obtain rfl : j = bag.length := by omega
            have HFB : Hid (bs' = P0 ++ ((gvs t).take (k + 1)).flatMap gvP) := hide (by rw [HST.out, ← List.append_assoc, ← HBS.out, HXT.out, HBS'.out, List.take_length])
            have HFL : Hid (bs'.length ≤ 10 + 1400 * (k + 1)) := hide (by have := HBL'.out; have := HBL.out; omega)
            clear HBS' HBL' HBS HBL HST HXT
            go_wp2
            go_roundw
            case rel => exact ⟨k + 1, bs', A, cb, by omega, by go_num, rfl, HFB, HFL, HO, HRW, HB⟩
            case measure => simp [intOf]; omega
    · obtain rfl : k = l.length := by omega
      have HF : Hid (bs = askP (gvs t)) := hide (by rw [HBS.out, HASK.out, List.take_of_length_le (by rw [gvs_len, HTL.out]; exact Nat.le_refl _)])
      clear HBS
      go_wp2
      go_ret
      exact ⟨t, HUP.out.1, HUP.out.2, _, rfl, by rw [← HF.out]; exact HO.out, HB.out⟩
end Go.Proofs.Ytjaofdalmjiliaa
