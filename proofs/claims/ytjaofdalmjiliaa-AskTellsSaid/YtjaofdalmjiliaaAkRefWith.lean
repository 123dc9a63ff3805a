/-
  CONTRACT OF the document's With: a request in new memory with an attribute instead of what is there.
-/
import Derived.Test.YtjaofdalmjiliaaAkCopied
import Derived.Test.YtjaofdalmjiliaaAkOrdP
import Derived.Test.YtjaofdalmjiliaaAkRefRight
import Derived.Deep.Cut
namespace Go.Proofs.Ytjaofdalmjiliaa
open Go.RowKit
set_option linter.unusedVariables false

theorem set_take_step {l : List Gm} {ix k : Nat} {g : Gv} (hk : k < l.length) : ((gvs l).set ix g).take (k + 1) = ((gvs l).set ix g).take k ++ [if ix = k then g else l[k].gv] := by
  have h1 : k < ((gvs l).set ix g).length := by rw [List.length_set, gvs_len]; exact hk
  rw [← List.take_append_getElem h1, List.getElem_set]
  congr 2
  split
  · rfl
  · exact gvs_at l k hk
/-- Behind the bag's append and its store into a box that lies above the row's world. -/
theorem mid_store2 {w wr wc w1 : World} {B p : Nat} {v : Value} {l : List Gm} {xc : Int} {xn : ByteArray} {A : Option Addr} {cc : Nat} {bag : List V3} (hq : NewReq wr B v l) (hb : Below B w wr) (hB : B ≤ wr.heap.size) (hp : wr.heap.size ≤ p) (hpc : p < wc.heap.size) (hwc : Below wr.heap.size wr wc) (h1 : Below wc.heap.size wc w1) (hown : w1.ownsRow wc.heap.size 35 3 (.slice A bag.length cc) bag.length (cellsV bag)) (w5 : World)
    (e5 : w5 = (w1.setCell ⟨p, 2, none⟩ (.slice A bag.length cc)).alloc (.cells #[.int .i64 xc, .string xn, .slice A bag.length cc] 40)) :
    NewReq w5 B v l ∧ NewG w5 B ⟨xc, xn, A, cc, bag⟩ ∧ Below B w w5 ∧ B ≤ w5.heap.size ∧ Sl w5 w5.heap.size (some ⟨w1.heap.size, 0, none⟩) (cellsG [⟨xc, xn, A, cc, bag⟩]) := by
  subst e5
  have hs : (w1.setCell ⟨p, 2, none⟩ (.slice A bag.length cc)).heap.size = w1.heap.size := World.size_setCell _ _ _
  have h2 : Below wr.heap.size wr (w1.setCell ⟨p, 2, none⟩ (.slice A bag.length cc)) := (below_on hwc h1).setCell hp _
  have h3 := h2.alloc h2.size (.cells #[.int .i64 xc, .string xn, .slice A bag.length cc] 40)
  have hw : w1.heap.size + 1 = ((w1.setCell ⟨p, 2, none⟩ (.slice A bag.length cc)).alloc (.cells #[.int .i64 xc, .string xn, .slice A bag.length cc] 40)).heap.size := by simp
  have hwz := h1.size
  refine ⟨hq.keep h3, own_base ((ownsRow_setCell_below hown (a := ⟨p, 2, none⟩) hpc _).alloc _) (by omega), hb.trans (h3.mono hB), by omega, ?_⟩
  have := Sl.laid (w1.setCell ⟨p, 2, none⟩ (.slice A bag.length cc)) #[.int .i64 xc, .string xn, .slice A bag.length cc] 40 (0, 0) [.int .i64 xc, .string xn, .slice A bag.length cc] rfl
  rw [hs] at this
  rw [← hw]
  exact this
/-- The same, the box lying below the row. -/
theorem end_store {w wr w1 : World} {B p : Nat} {v : Value} {l : List Gm} {xc : Int} {xn : ByteArray} {A : Option Addr} {cc : Nat} {bag : List V3} (hq : NewReq wr B v l) (hb : Below p w wr) (hB : B ≤ wr.heap.size) (hp : p < B) (h1 : Below wr.heap.size wr w1) (hown : w1.ownsRow wr.heap.size 35 3 (.slice A bag.length cc) bag.length (cellsV bag)) (w5 : World)
    (e5 : w5 = (w1.setCell ⟨p, 2, none⟩ (.slice A bag.length cc)).alloc (.cells #[.int .i64 xc, .string xn, .slice A bag.length cc] 40)) :
    NewReq w5 B v l ∧ NewG w5 B ⟨xc, xn, A, cc, bag⟩ ∧ Below p w w5 ∧ B ≤ w5.heap.size ∧ Sl w5 w5.heap.size (some ⟨w1.heap.size, 0, none⟩) (cellsG [⟨xc, xn, A, cc, bag⟩]) := by
  subst e5
  have hs : (w1.setCell ⟨p, 2, none⟩ (.slice A bag.length cc)).heap.size = w1.heap.size := World.size_setCell _ _ _
  have hwz := h1.size
  have h2 : Below p w (w1.setCell ⟨p, 2, none⟩ (.slice A bag.length cc)) := (hb.trans (h1.mono (by omega))).setCell (Nat.le_refl _) _
  have h3 := h2.alloc (by rw [hs]; omega) (.cells #[.int .i64 xc, .string xn, .slice A bag.length cc] 40)
  have hw : w1.heap.size + 1 = ((w1.setCell ⟨p, 2, none⟩ (.slice A bag.length cc)).alloc (.cells #[.int .i64 xc, .string xn, .slice A bag.length cc] 40)).heap.size := by simp
  refine ⟨((hq.keep h1).setBelow (a := ⟨p, 2, none⟩) hp _).keep (below_new _ _), own_base ((ownsRow_setCell_below hown (a := ⟨p, 2, none⟩) (by show p < wr.heap.size; omega) _).alloc _) (by omega), h3, by omega, ?_⟩
  have := Sl.laid (w1.setCell ⟨p, 2, none⟩ (.slice A bag.length cc)) #[.int .i64 xc, .string xn, .slice A bag.length cc] 40 (0, 0) [.int .i64 xc, .string xn, .slice A bag.length cc] rfl
  rw [hs] at this
  rw [← hw]
  exact this
/-- What lies in y's box behind the exchange. -/
def YMid (w0 wr : World) (p : Nat) (g : Gv) (ix k : Nat) (d : Value) (w' : World) : Prop :=
  d = .bool (decide (ix < k + 1)) ∧ p < w'.heap.size ∧ Below wr.heap.size wr w' ∧ ∃ Y : Gm, w'.heap[p]? = some (.cells #[.int .i64 Y.cat, .string Y.name, .slice Y.at_ Y.bag.length Y.cap] 40 (0, 0)) ∧ Y.gv = g ∧ GOk w0 w0.heap.size Y ∧ Y.bag.length ≤ 1000000
theorem box_three {w : World} {g : Nat} {x y z x' y' z' : Value} {t : TypeId} (h : w.heap[g]? = some (.cells #[x, y, z] t (0, 0))) :
    (((w.setCell ⟨g, 0, none⟩ x').setCell ⟨g, 1, none⟩ y').setCell ⟨g, 2, none⟩ z').heap[g]? = some (.cells #[x', y', z'] t (0, 0)) := by
  have h1 := heap_setCell_same w g 0 _ _ x' h
  have h2 := heap_setCell_same _ g 1 _ _ y' h1
  have h3 := heap_setCell_same _ g 2 _ _ z' h2
  exact h3
set_option maxHeartbeats 4000000 in
theorem refwith_any (a : Option Addr) (c n : Nat) (l : List Gm) (hn : l.length = n) (x : Gm) (w : World) (hl : l.length < 1000000) (hbl : ∀ x ∈ l, x.bag.length ≤ 1000000) (hxl : x.bag.length ≤ 1000000) (hr : Req w w.heap.size a l) (hx : GOk w w.heap.size x) :
    Calls Try.prog 21 #[.slice a n c, .agg #[.int .i64 x.cat, .string x.name, .slice x.at_ x.bag.length x.cap]] w (AsksPost w (withG (gvs l) x.gv)) := by
  subst hn
  obtain ⟨i0, hi, hz0, hz1, hz2⟩ := info_parts infoV
  have Hi := hide hi
  have Hz0 := hide hz0
  have Hz1 := hide hz1
  have Hz2 := hide hz2
  clear hi hz0 hz1 hz2
  obtain ⟨j0, hi, hz0, hz1, hz2⟩ := info_parts infoG
  have Gi := hide hi
  have Gz0 := hide hz0
  have Gz1 := hide hz1
  have Gz2 := hide hz2
  clear hi hz0 hz1 hz2
  obtain ⟨xc, xn, xa, xcap, bag⟩ := x
  simp only at hxl
  have hb0 := below_new w (.cells #[.int .i64 xc, .string xn, .slice xa bag.length xcap] 40)
  have hg0 := heap_alloc_new w (.cells #[.int .i64 xc, .string xn, .slice xa bag.length xcap] 40)
  have hsz : (w.alloc (.cells #[.int .i64 xc, .string xn, .slice xa bag.length xcap] 40)).heap.size = w.heap.size + 1 := by simp
  have HX := hide (show GOk _ _ _ from (hx.below hb0).more hb0.size)
  have HR := hide (hr.on hb0)
  have HXL := hide hxl
  have HBL := hide hbl
  have HB0 := hide hb0
  have HG0 := hide hg0
  have HSZ := hide hsz
  clear hr hx hxl hbl hb0 hg0 hsz
  show Calls _ _ #[.slice a l.length c, .agg #[.int .i64 xc, .string xn, .slice xa bag.length xcap]] w (AsksPost w (withG (gvs l) (xc, xn, bag)))
  obtain ⟨ix, hix⟩ : ∃ ix, ix = idxG (gvs l) xc xn := ⟨_, rfl⟩
  have HIX := hide hix
  clear hix
  go_enter Try.func21, Try.ntmps21
  go_wp2
  generalize w.alloc (.cells #[.int .i64 xc, .string xn, .slice xa bag.length xcap] 40) = w0 at *
  go_loopw [5, 6, 12] (fun o d i wr => ∃ (k : Nat) (l' : List Gm), k ≤ l.length ∧ i = .int .i64 k ∧ d = .bool (decide (ix < k)) ∧ l'.length = k ∧ Hid (gvs l' = ((gvs l).set ix (xc, xn, bag)).take k) ∧ Hid (NewReq wr w0.heap.size o l') ∧ Hid (Below w0.heap.size w0 wr)) (fun _ _ i _ => l.length - (intOf i).toNat)
  case atStart => exact ⟨0, [], by omega, rfl, rfl, rfl, hide rfl, hide (NewReq.nil _ _), hide (Below.refl _ _)⟩
  case round =>
    obtain ⟨k, l', hk, rfl, rfl, hll, HG, HQ, HB⟩ := hrel
    have HLL := hide hll
    clear hll
    have hblk : wr.heap[w.heap.size]? = _ := (HB.out.block w.heap.size (by rw [HSZ.out]; omega)).trans HG0.out
    by_cases hlt : k < l.length
    · obtain ⟨b, off, rfl, hb, x0, x1, x2⟩ := (HR.out.below HB.out).at hlt
      have HY := hide (HR.out.2 l[k] (List.getElem_mem _))
      have HYL := hide (HBL.out l[k] (List.getElem_mem _))
      have HST := hide (set_take_step (ix := ix) (g := (xc, xn, bag)) hlt)
      have HHIT := hide (fun h0 h1 h2 => (idx_hit' (c := xc) (n := xn) hlt h0 h1 h2))
      have HMISS := hide (fun h0 h1 => (idx_miss' (c := xc) (n := xn) hlt h0 h1))
      generalize l[k] = y at *
      obtain ⟨yc, yn, ya, ycap, ybag⟩ := y
      simp only at x0 x1 x2 HYL HHIT HMISS
      go_upto_region 7 with (fail)
      have hw2 : Below wr.heap.size wr ((wr.alloc (.cells #[.int .i64 yc, .string yn, .slice ya ybag.length ycap] 40)).alloc (.cells #[.int .i64 yc, .string yn, .slice ya ybag.length ycap] 40)) := below_on (below_new wr _) (below_new _ _)
      obtain ⟨q0, q1, q2⟩ := three_laid wr (.int .i64 yc) (.string yn) (.slice ya ybag.length ycap) 40
      have e0 := ((below_new (wr.alloc (.cells #[.int .i64 yc, .string yn, .slice ya ybag.length ycap] 40)) (.cells #[.int .i64 yc, .string yn, .slice ya ybag.length ycap] 40)).cell (p := ⟨wr.heap.size, 0, none⟩) (by simp)).trans q0
      have e1 := ((below_new (wr.alloc (.cells #[.int .i64 yc, .string yn, .slice ya ybag.length ycap] 40)) (.cells #[.int .i64 yc, .string yn, .slice ya ybag.length ycap] 40)).cell (p := ⟨wr.heap.size, 1, none⟩) (by simp)).trans q1
      have hyb := heap_alloc_new (wr.alloc (.cells #[.int .i64 yc, .string yn, .slice ya ybag.length ycap] 40)) (.cells #[.int .i64 yc, .string yn, .slice ya ybag.length ycap] 40)
      rw [show (wr.alloc (.cells #[.int .i64 yc, .string yn, .slice ya ybag.length ycap] 40)).heap.size = wr.heap.size + 1 by simp] at hyb
      have hs2 : wr.heap.size + 1 < ((wr.alloc (.cells #[.int .i64 yc, .string yn, .slice ya ybag.length ycap] 40)).alloc (.cells #[.int .i64 yc, .string yn, .slice ya ybag.length ycap] 40)).heap.size := by simp
      have hbl2 := (hw2.block w.heap.size (by have := HB.out.size; have := HSZ.out; omega)).trans hblk
      obtain ⟨g0, g1, g2⟩ := box_cells hbl2
      have HHB := hide hblk
      have HYB := hide hyb
      clear q0 q1 q2 x0 x1 x2 hb hblk hbl2
      generalize (wr.alloc (.cells #[.int .i64 yc, .string yn, .slice ya ybag.length ycap] 40)).alloc (.cells #[.int .i64 yc, .string yn, .slice ya ybag.length ycap] 40) = wa at *
      have HS2 := hide hs2
      have HW2 := hide hw2
      clear hs2 hw2 hyb
      go_cut [32] from 17 to 31 (fun t w' => t = .bool (decide (ix = k)) ∧ wa = w')
      case first =>
        have hsd := str_dec yn xn
        by_cases hd : ix < k
        · have dd : decide (ix < k) = true := decide_eq_true hd
          have HE : Hid (decide (ix = k) = false) := hide (decide_eq_false (by omega))
          clear hd hsd
          go_wp2
          go_meet
          exact ⟨by rw [HE.out], rfl⟩
        · have dd : decide (ix < k) = false := decide_eq_false hd
          have hki : k ≤ idxG (gvs l) xc xn := by rw [← HIX.out]; omega
          have HK2 := hide (fun h => HMISS.out hki h)
          have HK1 := hide (fun h1 h2 => HHIT.out hki h1 h2)
          clear hki hd
          by_cases h1 : yc = xc
          · have q1 : (yc == xc) = true := beq_iff_eq.2 h1
            by_cases h2 : yn = xn
            · rw [decide_eq_true h2] at hsd
              have HE : Hid (decide (ix = k) = true) := hide (decide_eq_true (by rw [HIX.out]; exact HK1.out h1 h2))
              clear h1 h2
              go_wp2
              go_meet
              exact ⟨by rw [HE.out], rfl⟩
            · rw [decide_eq_false h2] at hsd
              have HE : Hid (decide (ix = k) = false) := hide (decide_eq_false (by have := HK2.out (fun h => h2 h.2); rw [HIX.out]; omega))
              clear h1 h2
              go_wp2
              go_meet
              exact ⟨by rw [HE.out], rfl⟩
          · have q1 : (yc == xc) = false := beq_eq_false_iff_ne.2 h1
            have HE : Hid (decide (ix = k) = false) := hide (decide_eq_false (by have := HK2.out (fun h => h1 h.1); rw [HIX.out]; omega))
            clear h1 hsd
            go_wp2
            go_meet
            exact ⟨by rw [HE.out], rfl⟩
      case rest =>
        obtain ⟨rfl, rfl⟩ := hcut
        clear HHIT HMISS
        go_upto_if 32 with (fail)
        go_cut [6] from 32 to 33 (YMid w0 wr (wr.heap.size + 1) (if ix = k then (xc, xn, bag) else (⟨yc, yn, ya, ycap, ybag⟩ : Gm).gv) ix k)
        case first =>
          have f0 : wa.frozen? ⟨wr.heap.size + 1, 0, none⟩ = false := frozen_of_row wa _ 0 _ _ HYB.out
          have f1 : wa.frozen? ⟨wr.heap.size + 1, 1, none⟩ = false := frozen_of_row wa _ 1 _ _ HYB.out
          have f2 : wa.frozen? ⟨wr.heap.size + 1, 2, none⟩ = false := frozen_of_row wa _ 2 _ _ HYB.out
          obtain ⟨b0, b1, b2⟩ := box_cells HYB.out
          by_cases hik : ix = k
          · have dk : decide (ix = k) = true := decide_eq_true hik
            have HIK := hide hik
            clear hik
            go_wp2
            go_meet
            exact ⟨by rw [decide_eq_true (show ix < k + 1 by have := HIK.out; omega)], by rw [World.size_setCell, World.size_setCell, World.size_setCell]; exact HS2.out, ((HW2.out.setCell (by simp) _).setCell (by simp) _).setCell (by simp) _, ⟨xc, xn, xa, xcap, bag⟩, box_three HYB.out, by rw [if_pos HIK.out]; rfl, HX.out, HXL.out⟩
          · have dk : decide (ix = k) = false := decide_eq_false hik
            have HIK := hide hik
            clear hik
            go_wp2
            go_meet
            exact ⟨congrArg Value.bool (decide_eq_decide.2 (by have := HIK.out; omega)), HS2.out, HW2.out, ⟨yc, yn, ya, ycap, ybag⟩, HYB.out, by rw [if_neg HIK.out], HY.out, HYL.out⟩
        case rest =>
          obtain ⟨rfl, hp, hwc, Y, hYb, hYg, hYk, hYl⟩ := hcut
          obtain ⟨zc, zn, za, zcap, zbag⟩ := Y
          simp only at hYl hYb
          obtain ⟨w2, hw2⟩ : ∃ w2, w2 = wc := ⟨_, rfl⟩
          subst hw2
          have hpp : wr.heap.size ≤ wr.heap.size + 1 := by omega
          generalize wr.heap.size + 1 = p at *
          obtain ⟨b0, b1, b2⟩ := box_cells hYb
          have HP := hide hp
          have HPP := hide hpp
          have HWC := hide hwc
          have HYB2 := hide hYb
          have HYG := hide hYg
          have HBE : Hid (Below w2.heap.size w2 (w2.alloc oE)) := hide (below_new _ _)
          have H0 := hide (madeE w2)
          have HV : Hid ((cellsV zbag).length = zbag.length * 3) := hide (cellsV_len zbag)
          have HBW : Hid (Below w0.heap.size w0 w2) := hide (below_on HB.out hwc)
          have HS3 : Hid (Sl (w2.alloc oE) (w2.alloc oE).heap.size za (cellsV zbag)) := hide (((hYk.2.2.2.2.1.below HBW.out).more HBW.out.size).on HBE.out)
          have HO := hide (one_cellsV zbag)
          have HYL2 := hide hYl
          have b2e : (w2.alloc (.cells #[] 35)).cell? ⟨p, 2, none⟩ = some (.slice za zbag.length zcap) := (HBE.out.cell (p := ⟨p, 2, none⟩) hp).trans b2
          clear hp hpp hwc hYb hYg hYk hYl HS2 HW2 HYB e0 e1 g0 g1 g2 HHB HY HYL
          go_wp2_with (first
            | (at_builtin; refine wpList_app _ rfl (.tmp 34) (.tmp 36) 22 rfl w2.heap.size 35 i0 (.agg #[.int .i64 0, .int .i64 0, .string ByteArray.empty]) 3 32 Try.underlying22 Hi.out Hz0.out Hz1.out Hz2.out rfl (by decide) (.slice (some ⟨w2.heap.size, 0, none⟩) 0 0) 0 [] rfl H0.out _ za zbag.length zcap (cellsV zbag) rfl HV.out HS3.out HO.out (by unfold maxLen; have := HYL2.out; omega) (by have := HYL2.out; omega) HBE.out.size ?_; intro v1 w1 hown1 hg1 hat1; have HB1 := hide (own_below H0.out HBE.out hg1 (Nat.le_refl _) HBE.out.size); rw [Nat.zero_add, List.nil_append] at hown1; obtain ⟨A1, cc, rfl, -, -, -⟩ := own_slice hown1; have HGB := hide ((HB1.out.block p HP.out).trans HYB2.out); obtain ⟨c0, c1, c2⟩ := box_cells HGB.out; have f2 : w1.frozen? ⟨p, 2, none⟩ = false := frozen_of_row w1 p 2 _ _ HGB.out; have HOW := hide hown1; clear hown1 hg1 hat1 b0 b1 b2 b2e)
            | (at_builtin; obtain ⟨hq5, hx5, hb5, hs5, hsl5⟩ := mid_store2 (xc := zc) (xn := zn) HQ.out HB.out HB.out.size HPP.out HP.out HWC.out HB1.out HOW.out _ rfl; go_loud (refine wpList_app _ rfl (.tmp 39) (.tmp 41) 32 rfl w0.heap.size 40 j0 (.agg #[.int .i64 0, .string ByteArray.empty, .slice none 0 0]) 3 48 Try.underlying32 Gi.out Gz0.out Gz1.out Gz2.out rfl (by decide) _ l'.length (cellsG l') rfl hq5.1 _ (some ⟨w1.heap.size, 0, none⟩) 1 1 (cellsG [⟨zc, zn, A1, cc, zbag⟩]) rfl rfl hsl5 (one_cellsG _) (by unfold maxLen; have := HLL.out; omega) (by have := HLL.out; omega) hs5 ?_; intro v2 w6 hown2 hg2 hat2; have HN2 := hide (hq5.snoc hx5 hg2 hown2); have HBX := hide (own_below hq5.1 hb5 hg2 (Nat.le_refl _) hs5); clear hq5 hx5 hb5 hs5 hsl5 hown2 hg2 hat2 c0 c1 c2 f2)))
          go_roundw
          case rel => exact ⟨k + 1, l' ++ [⟨zc, zn, A1, cc, zbag⟩], by omega, by go_num, rfl, by rw [List.length_append, HLL.out]; rfl, hide (by rw [gvs_append, HST.out, HG.out, ← HYG.out]; rfl), HN2, HBX⟩
          case measure => simp [intOf]; omega
    · obtain rfl : k = l.length := by omega
      have HBW : Hid (Below w.heap.size w wr) := hide (below_on HB0.out HB.out)
      have HSB : Hid (w.heap.size ≤ w0.heap.size) := hide (by rw [HSZ.out]; omega)
      by_cases hin : ix < l.length
      · have dd : decide (ix < l.length) = true := decide_eq_true hin
        have HW : Hid (gvs l' = withG (gvs l) (xc, xn, bag)) := hide (by rw [HG.out, List.take_of_length_le (by rw [List.length_set, gvs_len]; omega), withG_in (l := gvs l) (g := (xc, xn, bag)) (by rw [gvs_len]; show idxG (gvs l) xc xn < l.length; rw [← HIX.out]; exact hin), HIX.out])
        clear hin hblk
        go_wp2
        go_ret
        exact ⟨_, l', rfl, HW.out, HQ.out.less HSB.out, HBW.out⟩
      · have dd : decide (ix < l.length) = false := decide_eq_false hin
        have HW : Hid (gvs l' ++ [(xc, xn, bag)] = withG (gvs l) (xc, xn, bag)) := hide (by
          rw [HG.out, List.take_of_length_le (by rw [List.length_set, gvs_len]; omega), withG_out (l := gvs l) (g := (xc, xn, bag)) (by rw [gvs_len]; show ¬ idxG (gvs l) xc xn < l.length; rw [← HIX.out]; exact hin), List.set_eq_of_length_le (by rw [gvs_len]; omega)])
        obtain ⟨b0, b1, b2⟩ := box_cells hblk
        have HHB := hide hblk
        have HP : Hid (w.heap.size < wr.heap.size) := hide (by have := HB.out.size; have := HSZ.out; omega)
        have HPB : Hid (w.heap.size < w0.heap.size) := hide (by have := HSZ.out; omega)
        have HBE : Hid (Below wr.heap.size wr (wr.alloc oE)) := hide (below_new _ _)
        have H0 := hide (madeE wr)
        have HV : Hid ((cellsV bag).length = bag.length * 3) := hide (cellsV_len bag)
        have HS3 : Hid (Sl (wr.alloc oE) (wr.alloc oE).heap.size xa (cellsV bag)) := hide (((HX.out.2.2.2.2.1.below HB.out).more HB.out.size).on HBE.out)
        have HO := hide (one_cellsV bag)
        have b2e : (wr.alloc (.cells #[] 35)).cell? ⟨w.heap.size, 2, none⟩ = some (.slice xa bag.length xcap) := (HBE.out.cell (p := ⟨w.heap.size, 2, none⟩) HP.out).trans b2
        clear hin hblk
        go_wp2_with (first
          | (at_builtin; refine wpList_app _ rfl (.tmp 46) (.tmp 48) 22 rfl wr.heap.size 35 i0 (.agg #[.int .i64 0, .int .i64 0, .string ByteArray.empty]) 3 32 Try.underlying22 Hi.out Hz0.out Hz1.out Hz2.out rfl (by decide) (.slice (some ⟨wr.heap.size, 0, none⟩) 0 0) 0 [] rfl H0.out _ xa bag.length xcap (cellsV bag) rfl HV.out HS3.out HO.out (by unfold maxLen; have := HXL.out; omega) (by have := HXL.out; omega) HBE.out.size ?_; intro v1 w1 hown1 hg1 hat1; have HB1 := hide (own_below H0.out HBE.out hg1 (Nat.le_refl _) HBE.out.size); rw [Nat.zero_add, List.nil_append] at hown1; obtain ⟨A1, cc, rfl, -, -, -⟩ := own_slice hown1; have HGB := hide ((HB1.out.block w.heap.size HP.out).trans HHB.out); obtain ⟨c0, c1, c2⟩ := box_cells HGB.out; have f2 : w1.frozen? ⟨w.heap.size, 2, none⟩ = false := frozen_of_row w1 w.heap.size 2 _ _ HGB.out; have HOW := hide hown1; clear hown1 hg1 hat1 b0 b1 b2 b2e)
          | (at_builtin; obtain ⟨hq5, hx5, hb5, hs5, hsl5⟩ := end_store (xc := xc) (xn := xn) HQ.out HBW.out HB.out.size HPB.out HB1.out HOW.out _ rfl; go_loud (refine wpList_app _ rfl (.tmp 51) (.tmp 53) 32 rfl w0.heap.size 40 j0 (.agg #[.int .i64 0, .string ByteArray.empty, .slice none 0 0]) 3 48 Try.underlying32 Gi.out Gz0.out Gz1.out Gz2.out rfl (by decide) _ l'.length (cellsG l') rfl hq5.1 _ (some ⟨w1.heap.size, 0, none⟩) 1 1 (cellsG [⟨xc, xn, A1, cc, bag⟩]) rfl rfl hsl5 (one_cellsG _) (by unfold maxLen; have := HLL.out; omega) (by have := HLL.out; omega) hs5 ?_; intro v2 w6 hown2 hg2 hat2; have HN2 := hide (hq5.snoc hx5 hg2 hown2); have HBX := hide (own_below hq5.1 hb5 hg2 (Nat.le_of_lt HPB.out) hs5); clear hq5 hx5 hb5 hs5 hsl5 hown2 hg2 hat2 c0 c1 c2 f2)))
        go_ret
        exact ⟨v2, l' ++ [⟨xc, xn, A1, cc, bag⟩], rfl, by rw [gvs_append, ← HW.out]; rfl, HN2.out.less HSB.out, HBX.out⟩
end Go.Proofs.Ytjaofdalmjiliaa
