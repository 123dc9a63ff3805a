/-
  SORTING: slices.symMergeCmpFunc where one of the two rows is a single one.
  SORTING: slices.symMergeCmpFunc where the second row is a single one.
  SORTING: CONTRACT OF slices.symMergeCmpFunc.
-/
import Derived.Test.YtjaofdalmjiliaaSortM
import Derived.Deep.Cut
import Derived.Deep.CutRange
import Derived.Deep.CutBlock
import Derived.Deep.DeepCutAuto
namespace Go.Proofs.Ytjaofdalmjiliaa
open Go.RowKit
set_option linter.unusedVariables false

/-- Two of a row in memory, in every world behind this one. -/
structure Two (w : World) (g i j : Nat) (x y : Gm) : Prop where
  c0 : ∀ pp : In (Aft w), pp.w.cell? ⟨g, i * 3, none⟩ = some (.int .i64 x.cat)
  c1 : ∀ pp : In (Aft w), pp.w.cell? ⟨g, i * 3 + 1, none⟩ = some (.string x.name)
  c2 : ∀ pp : In (Aft w), pp.w.cell? ⟨g, i * 3 + 2, none⟩ = some (.slice x.at_ x.bag.length x.cap)
  d0 : ∀ pp : In (Aft w), pp.w.cell? ⟨g, j * 3, none⟩ = some (.int .i64 y.cat)
  d1 : ∀ pp : In (Aft w), pp.w.cell? ⟨g, j * 3 + 1, none⟩ = some (.string y.name)
  d2 : ∀ pp : In (Aft w), pp.w.cell? ⟨g, j * 3 + 2, none⟩ = some (.slice y.at_ y.bag.length y.cap)
theorem RowAt.two {w : World} {B g c i j : Nat} {s : List Gm} {x y : Gm} (h : RowAt w B g c s) (hi : s[i]? = some x) (hj : s[j]? = some y) : Two w g i j x y := by
  obtain ⟨hi1, rfl⟩ := List.getElem?_eq_some_iff.1 hi
  obtain ⟨hj1, rfl⟩ := List.getElem?_eq_some_iff.1 hj
  obtain ⟨c0, c1, c2⟩ := h.cells hi1
  obtain ⟨d0, d1, d2⟩ := h.cells hj1
  have hg := h.lt.2
  exact ⟨fun pp => (pp.h.cell (p := ⟨g, i * 3, none⟩) hg).trans c0, fun pp => (pp.h.cell (p := ⟨g, i * 3 + 1, none⟩) hg).trans c1, fun pp => (pp.h.cell (p := ⟨g, i * 3 + 2, none⟩) hg).trans c2,
    fun pp => (pp.h.cell (p := ⟨g, j * 3, none⟩) hg).trans d0, fun pp => (pp.h.cell (p := ⟨g, j * 3 + 1, none⟩) hg).trans d1, fun pp => (pp.h.cell (p := ⟨g, j * 3 + 2, none⟩) hg).trans d2⟩
theorem cmp_in (x y : Gm) (wr : World) : ∀ w', Below wr.heap.size wr w' → Calls Try.prog 26 #[.agg #[.int .i64 x.cat, .string x.name, .slice x.at_ x.bag.length x.cap], .agg #[.int .i64 y.cat, .string y.name, .slice y.at_ y.bag.length y.cap]] w' fun e w2 => e = .returned (.int .i64 (cmpG x y)) ∧ Below wr.heap.size wr w2 :=
  fun w' hb' => (cmp_any x y w').mono fun e w2 (h : Told _ w' e w2) => ⟨h.1, below_on hb' h.2⟩
theorem half_int (i j h : Nat) (e : h = (i + j) / 2) : ((i : Int) + (j : Int)) / 2 = (h : Int) := by omega
/-- A row that stays as it is, worlds behind w. -/
def Rest (w wr : World) (B g c : Nat) (L : List Gm) : Prop := RowAt wr B g c L ∧ w.grownBy wr (some g)
theorem Rest.below {w wr w' : World} {B g c : Nat} {L : List Gm} (h : Rest w wr B g c L) (hb : Below wr.heap.size wr w') : Rest w w' B g c L := ⟨h.1.keep hb, out_below h.2 hb⟩
set_option maxHeartbeats 4000000 in
set_option maxRecDepth 20000 in
theorem sym1_any (B g c N : Nat) (p y q : List Gm) (x : Gm) (a m b : Nat) (w : World) (hN : (p ++ [x] ++ y ++ q).length = N) (hN2 : N ≤ 1000000) (ha : p.length = a) (hm : a + 1 = m) (hb : m + y.length = b) (hy : Up y) (h : RowAt w B g c (p ++ [x] ++ y ++ q)) :
    Calls Try.prog 53 #[.slice (some ⟨g, 0, none⟩) N c, .int .i64 a, .int .i64 m, .int .i64 b, cmpV] w (InsPost w B g c p ([x] ++ y) q) := by
  have hbN : b ≤ N := by rw [← hN]; simp; omega
  have HMO := hide (mono1 (p := p ++ [x]) (q := q) x hy (m := m) (e := b) (by simp; omega) hb)
  have HRS : Hid (Rest w w B g c (p ++ [x] ++ y ++ q)) := hide ⟨h, World.grownBy.refl w _⟩
  have HXA : Hid ((p ++ [x] ++ y ++ q)[a]? = some x) := hide (by simp [← ha])
  have HL := hide (⟨hN, ha, hm, hb⟩ : _ ∧ _ ∧ _ ∧ _)
  have HY := hide hy
  obtain ⟨L, hL⟩ : ∃ L, L = p ++ [x] ++ y ++ q := ⟨_, rfl⟩
  rw [← hL] at HMO HRS HXA
  have hLN : L.length = N := by rw [hL]; exact hN
  have HLE := hide hL
  have hone : ((m : Int) - (a : Int)) = 1 := by omega
  have hab : a < m := by omega
  have hmb : m ≤ b := by omega
  clear h hN ha hm hb hy hL
  unfold cmpV
  go_enter Try.func53, Try.ntmps53
  go_wp2
  go_loopw [10, 11] (fun u v wr => ∃ (i j : Nat), u = .int .i64 i ∧ v = .int .i64 j ∧ m ≤ i ∧ i ≤ j ∧ j ≤ b ∧ Hid (Srch (P1 L x) m b i j) ∧ Hid (Rest w wr B g c L)) (fun u v _ => (intOf v).toNat - (intOf u).toNat)
  case atStart => exact ⟨m, b, rfl, rfl, Nat.le_refl _, hmb, Nat.le_refl _, hide (Srch.start _ _ _ hmb), HRS⟩
  case round =>
    clear HRS
    obtain ⟨i, j, rfl, rfl, hmi, hij, hjb, HSR, HRS⟩ := hrel
    by_cases hlt : i < j
    · obtain ⟨h, hh⟩ : ∃ h, h = (i + j) / 2 := ⟨_, rfl⟩
      have hhi := half_int i j h hh
      have h1 : i ≤ h := by omega
      have h2 : h < j := by omega
      have hhL : h < L.length := by omega
      have HSL := hide (fun hn => HSR.out.low HMO.out h1 h2 hn)
      have HSH := hide (fun hp => HSR.out.high HMO.out h1 h2 hp)
      have he : L[h]? = some L[h] := List.getElem?_eq_getElem hhL
      generalize L[h] = z at he
      obtain ⟨c0, c1, c2, d0, d1, d2⟩ := HRS.out.1.two he HXA.out
      have HP1 : Hid (Lt z x → ¬ P1 L x h) := hide (fun hl hp => hp z he hl)
      have HP2 : Hid (¬ Lt z x → P1 L x h) := hide (fun hl y hy => by rw [he] at hy; injection hy with hy; subst hy; exact hl)
      have HX := hide (cmp_in z x wr)
      have hhN : (h : Int) < (N : Int) := by omega
      have haN : (a : Int) < (N : Int) := by omega
      clear he hh hhL
      generalize hcz : cmpG z x = cz at *
      have HCZ := hide hcz
      clear hcz
      by_cases hlv : cz < 0
      · have dz : decide (cz < 0) = true := decide_eq_true hlv
        have HSN := hide (HSL.out (HP1.out (cmpG_neg.1 (HCZ.out ▸ hlv))))
        clear hlv HSL HSH HP1 HP2
        go_wp2_with fail
        refine wp_region_in (C := Aft wr) (by kernel_rfl) (by kernel_rfl) (aft_drew wr) ?_
        repeat (go_big_quiet_step (exact in_call fun w' hb => HX.out w' hb))
        refine wpQuiet_nil ?_
        intro w2 hb2
        have HR3 := hide (HRS.out.below hb2)
        clear c0 c1 c2 d0 d1 d2 HX hb2 HRS hhi
        go_wp2
        go_roundw
        case rel => exact ⟨h + 1, j, by go_num, rfl, by omega, by omega, hjb, HSN, HR3⟩
        case measure => simp [intOf]; omega
      · have dz : decide (cz < 0) = false := decide_eq_false hlv
        have HSN := hide (HSH.out (HP2.out (fun hl => hlv (HCZ.out ▸ cmpG_neg.2 hl))))
        clear hlv HSL HSH HP1 HP2
        go_wp2_with fail
        refine wp_region_in (C := Aft wr) (by kernel_rfl) (by kernel_rfl) (aft_drew wr) ?_
        repeat (go_big_quiet_step (exact in_call fun w' hb => HX.out w' hb))
        refine wpQuiet_nil ?_
        intro w2 hb2
        have HR3 := hide (HRS.out.below hb2)
        clear c0 c1 c2 d0 d1 d2 HX hb2 HRS hhi
        go_wp2
        go_roundw
        case rel => exact ⟨i, h, rfl, by go_num, hmi, h1, by omega, HSN, HR3⟩
        case measure => simp [intOf]; omega
    · obtain rfl : i = j := by omega
      obtain ⟨hN, ha, hm, hb⟩ := HL.out
      obtain ⟨y1, y2, rfl, hy1, hy2⟩ := cut_two y (i - m) (by omega)
      have hlow : ∀ z ∈ y1, Le z x := fun z hz => by
        obtain ⟨t, ht, rfl⟩ := List.getElem_of_mem hz
        have hno := HSR.out.no (m + t) (by omega) (by omega)
        refine Lt.le (Classical.byContradiction fun hn => hno (fun u hu => ?_))
        rw [HLE.out, look_mid' (p := p ++ [x]) (x := y1 ++ y2) (i := t) (by simp; omega) (by simp; omega), List.getElem_append_left ht] at hu
        injection hu with hu
        subst hu
        exact hn
      have hhigh : ∀ z ∈ y2, Le x z := fun z hz => by
        obtain ⟨t, ht, rfl⟩ := List.getElem_of_mem hz
        have hyes := HSR.out.yes (i + t) (by omega) (by omega)
        refine hyes _ ?_
        rw [HLE.out, look_mid' (p := p ++ [x]) (x := y1 ++ y2) (i := y1.length + t) (by simp; omega) (by simp; omega), List.getElem_append_right (by omega)]
        simp
      have HMG := hide (merge1 HY.out hlow hhigh)
      have HPX : Hid ((y1 ++ x :: y2).Perm ([x] ++ (y1 ++ y2))) := hide List.perm_middle
      have hr0 := HRS.out.1
      rw [HLE.out] at hr0
      have HR1 : Hid (∃ u v, y1 = u ++ v ∧ a + u.length = a ∧ Rest w wr B g c (p ++ u ++ x :: (v ++ y2 ++ q))) := hide ⟨[], y1, rfl, by simp, ⟨by simpa using hr0, HRS.out.2⟩⟩
      have hy1l : y1.length + m = i := by omega
      clear hlow hhigh hr0 HRS HSR HMO HLE HY hy1 hy2 hN hb HXA hLN hlt
      have HA := hide ha
      clear ha
      generalize hey : y1.length = n1 at *
      go_wp2
      go_loopw [13] (fun u wr => ∃ (k : Nat), u = .int .i64 k ∧ a ≤ k ∧ k ≤ a + n1 ∧ Hid (∃ u v, y1 = u ++ v ∧ a + u.length = k ∧ Rest w wr B g c (p ++ u ++ x :: (v ++ y2 ++ q)))) (fun u _ => b - (intOf u).toNat)
      case atStart => exact ⟨a, rfl, Nat.le_refl _, by omega, HR1⟩
      case round =>
        clear HR1
        obtain ⟨k, rfl, hak, hkn, HE⟩ := hrel
        by_cases hlt : k < a + n1
        · have hki : (k : Int) < (i : Int) - 1 := by omega
          obtain ⟨u, v, e1, e2, hr⟩ := HE.out
          obtain ⟨z, v', rfl⟩ : ∃ z v', v = z :: v' := by
            cases v with
            | nil => rw [e1] at hey; simp at hey; omega
            | cons z v' => exact ⟨z, v', rfl⟩
          have hrow : RowAt wr B g c ((p ++ u) ++ x :: ([] ++ z :: (v' ++ y2 ++ q))) := by simpa using hr.1
          have hsw := hrow.swaps (i := k) (j := k + 1) (m := []) (by rw [List.length_append, HA.out]; omega) (by simp)
          have HSW := hide hsw
          have HE1 := hide e1
          have HE2 := hide e2
          have HOUT0 := hide hr.2
          obtain ⟨c0, c1, c2, d0, d1, d2, hf, _, _, _, _⟩ := hsw
          have f0 := hf (k * 3)
          have f1 := hf (k * 3 + 1)
          have f2 := hf (k * 3 + 2)
          have g0 := hf ((k + 1) * 3)
          have g1 := hf ((k + 1) * 3 + 1)
          have g2 := hf ((k + 1) * 3 + 2)
          have ne0 : ¬ k * 3 = (k + 1) * 3 := by omega
          have nf0 : ¬ (k + 1) * 3 = k * 3 := by omega
          have ne1 : ¬ k * 3 = (k + 1) * 3 + 1 := by omega
          have nf1 : ¬ (k + 1) * 3 + 1 = k * 3 := by omega
          have ne2 : ¬ k * 3 = (k + 1) * 3 + 2 := by omega
          have nf2 : ¬ (k + 1) * 3 + 2 = k * 3 := by omega
          have ne3 : ¬ k * 3 + 1 = (k + 1) * 3 := by omega
          have nf3 : ¬ (k + 1) * 3 = k * 3 + 1 := by omega
          have ne4 : ¬ k * 3 + 1 = (k + 1) * 3 + 1 := by omega
          have nf4 : ¬ (k + 1) * 3 + 1 = k * 3 + 1 := by omega
          have ne5 : ¬ k * 3 + 1 = (k + 1) * 3 + 2 := by omega
          have nf5 : ¬ (k + 1) * 3 + 2 = k * 3 + 1 := by omega
          have ne6 : ¬ k * 3 + 2 = (k + 1) * 3 := by omega
          have nf6 : ¬ (k + 1) * 3 = k * 3 + 2 := by omega
          have ne7 : ¬ k * 3 + 2 = (k + 1) * 3 + 1 := by omega
          have nf7 : ¬ (k + 1) * 3 + 1 = k * 3 + 2 := by omega
          have ne8 : ¬ k * 3 + 2 = (k + 1) * 3 + 2 := by omega
          have nf8 : ¬ (k + 1) * 3 + 2 = k * 3 + 2 := by omega
          have hkN : k + 1 < N := by omega
          have hkNz : (k : Int) + 1 < (N : Int) := by omega
          clear HE e1 e2 hr hrow hf
          go_wp2_with fail
          go_big_region
          have hrow := HSW.out.row.drew
          have hout := grown_drew (grown_trans HOUT0.out HSW.out.out)
          unfold set3 at hrow hout
          have HROW := hide hrow
          have HOUT := hide hout
          clear hrow hout c0 c1 c2 d0 d1 d2 f0 f1 f2 g0 g1 g2 HSW HOUT0
          go_wp2
          go_roundw
          case rel => exact ⟨k + 1, by go_num, by omega, by omega, hide ⟨u ++ [z], v', by rw [HE1.out]; simp, by have := HE2.out; simp; omega, by have := HROW.out; simpa using this, HOUT.out⟩⟩
          case measure => simp [intOf]; omega
        · have hki : ¬ (k : Int) < (i : Int) - 1 := by omega
          obtain ⟨u, v, e1, e2, hr⟩ := HE.out
          obtain rfl : v = [] := by
            cases v with
            | nil => rfl
            | cons z v' => rw [e1] at hey; simp at hey; omega
          have HX : Hid (RowAt wr B g c (p ++ (y1 ++ x :: y2) ++ q) ∧ w.grownBy wr (some g)) := hide ⟨by rw [e1]; have := hr.1; simpa using this, hr.2⟩
          clear HE e1 e2 hr
          go_wp2
          go_end0
          exact ⟨y1 ++ x :: y2, HMG.out, HPX.out, rfl, HX.out.1, HX.out.2⟩
end Go.Proofs.Ytjaofdalmjiliaa
namespace Go.Proofs.Ytjaofdalmjiliaa
open Go.RowKit
set_option linter.unusedVariables false

set_option maxHeartbeats 4000000 in
set_option maxRecDepth 20000 in
theorem sym2_any (B g c N : Nat) (p x q : List Gm) (y : Gm) (a m b : Nat) (w : World) (hN : (p ++ x ++ [y] ++ q).length = N) (hN2 : N ≤ 1000000) (ha : p.length = a) (hm : a + x.length = m) (hb : m + 1 = b) (hx2 : 2 ≤ x.length) (hx : Up x) (h : RowAt w B g c (p ++ x ++ [y] ++ q)) :
    Calls Try.prog 53 #[.slice (some ⟨g, 0, none⟩) N c, .int .i64 a, .int .i64 m, .int .i64 b, cmpV] w (InsPost w B g c p (x ++ [y]) q) := by
  have hbN : b ≤ N := by rw [← hN]; simp; omega
  have HMO := hide (mono2 (p := p) (q := [y] ++ q) y hx (m := a) (e := m) ha hm)
  have HRS : Hid (Rest w w B g c (p ++ x ++ ([y] ++ q))) := hide ⟨by simpa using h, World.grownBy.refl w _⟩
  have HXA : Hid ((p ++ x ++ ([y] ++ q))[m]? = some y) := hide (by rw [List.getElem?_append_right (by rw [List.length_append]; omega), show m - (p ++ x).length = 0 by rw [List.length_append]; omega]; rfl)
  have HL := hide (⟨hN, ha, hm, hb⟩ : _ ∧ _ ∧ _ ∧ _)
  have HY := hide hx
  obtain ⟨L, hL⟩ : ∃ L, L = p ++ x ++ ([y] ++ q) := ⟨_, rfl⟩
  rw [← hL] at HMO HRS HXA
  have hLN : L.length = N := by rw [hL, ← hN]; simp
  have HLE := hide hL
  have hone : (((m : Int) - (a : Int)) == 1) = false := beq_eq_false_iff_ne.2 (by omega)
  have hone2 : ((b : Int) - (m : Int)) = 1 := by omega
  have hab : a ≤ m := by omega
  have hmb : m < b := by omega
  clear h hN ha hm hb hx hL hx2
  unfold cmpV
  go_enter Try.func53, Try.ntmps53
  go_wp2
  go_loopw [14, 15] (fun u v wr => ∃ (i j : Nat), u = .int .i64 i ∧ v = .int .i64 j ∧ a ≤ i ∧ i ≤ j ∧ j ≤ m ∧ Hid (Srch (P2 L y) a m i j) ∧ Hid (Rest w wr B g c L)) (fun u v _ => (intOf v).toNat - (intOf u).toNat)
  case atStart => exact ⟨a, m, rfl, rfl, Nat.le_refl _, hab, Nat.le_refl _, hide (Srch.start _ _ _ hab), HRS⟩
  case round =>
    clear HRS
    obtain ⟨i, j, rfl, rfl, hmi, hij, hjb, HSR, HRS⟩ := hrel
    by_cases hlt : i < j
    · obtain ⟨h, hh⟩ : ∃ h, h = (i + j) / 2 := ⟨_, rfl⟩
      have hhi := half_int i j h hh
      have h1 : i ≤ h := by omega
      have h2 : h < j := by omega
      have hhL : h < L.length := by omega
      have HSL := hide (fun hn => HSR.out.low HMO.out h1 h2 hn)
      have HSH := hide (fun hp => HSR.out.high HMO.out h1 h2 hp)
      have he : L[h]? = some L[h] := List.getElem?_eq_getElem hhL
      generalize L[h] = z at he
      obtain ⟨c0, c1, c2, d0, d1, d2⟩ := HRS.out.1.two HXA.out he
      have HP1 : Hid (¬ Lt y z → ¬ P2 L y h) := hide (fun hl hp => hl (hp z he))
      have HP2 : Hid (Lt y z → P2 L y h) := hide (fun hl u hu => by rw [he] at hu; injection hu with hu; subst hu; exact hl)
      have HX := hide (cmp_in y z wr)
      have hhN : (h : Int) < (N : Int) := by omega
      have hmN : (m : Int) < (N : Int) := by omega
      clear he hh hhL
      generalize hcz : cmpG y z = cz at *
      have HCZ := hide hcz
      clear hcz
      by_cases hlv : cz < 0
      · have dz : decide (cz < 0) = true := decide_eq_true hlv
        have HSN := hide (HSH.out (HP2.out (cmpG_neg.1 (HCZ.out ▸ hlv))))
        clear hlv HSL HSH HP1 HP2
        go_wp2_with fail
        refine wp_region_in (C := Aft wr) (by kernel_rfl) (by kernel_rfl) (aft_drew wr) ?_
        repeat (go_big_quiet_step (exact in_call fun w' hb => HX.out w' hb))
        refine wpQuiet_nil ?_
        intro w2 hb2
        have HR3 := hide (HRS.out.below hb2)
        clear c0 c1 c2 d0 d1 d2 HX hb2 HRS hhi
        go_wp2
        go_roundw
        case rel => exact ⟨i, h, rfl, by go_num, hmi, h1, by omega, HSN, HR3⟩
        case measure => simp [intOf]; omega
      · have dz : decide (cz < 0) = false := decide_eq_false hlv
        have HSN := hide (HSL.out (HP1.out (fun hl => hlv (HCZ.out ▸ cmpG_neg.2 hl))))
        clear hlv HSL HSH HP1 HP2
        go_wp2_with fail
        refine wp_region_in (C := Aft wr) (by kernel_rfl) (by kernel_rfl) (aft_drew wr) ?_
        repeat (go_big_quiet_step (exact in_call fun w' hb => HX.out w' hb))
        refine wpQuiet_nil ?_
        intro w2 hb2
        have HR3 := hide (HRS.out.below hb2)
        clear c0 c1 c2 d0 d1 d2 HX hb2 HRS hhi
        go_wp2
        go_roundw
        case rel => exact ⟨h + 1, j, by go_num, rfl, by omega, by omega, hjb, HSN, HR3⟩
        case measure => simp [intOf]; omega
    · obtain rfl : i = j := by omega
      obtain ⟨hN, ha, hm, hb⟩ := HL.out
      obtain ⟨y1, y2, rfl, hy1, hy2⟩ := cut_two x (i - a) (by omega)
      have hlow : ∀ z ∈ y1, Le z y := fun z hz => by
        obtain ⟨t, ht, rfl⟩ := List.getElem_of_mem hz
        have hno := HSR.out.no (a + t) (by omega) (by omega)
        refine fun hl => hno (fun u hu => ?_)
        rw [HLE.out, look_mid' (p := p) (x := y1 ++ y2) (i := t) (by simp; omega) (by omega), List.getElem_append_left ht] at hu
        injection hu with hu
        subst hu
        exact hl
      have hhigh : ∀ z ∈ y2, Le y z := fun z hz => by
        obtain ⟨t, ht, rfl⟩ := List.getElem_of_mem hz
        have hyes := HSR.out.yes (i + t) (by omega) (by omega)
        refine Lt.le (hyes _ ?_)
        rw [HLE.out, look_mid' (p := p) (x := y1 ++ y2) (i := y1.length + t) (by simp; omega) (by omega), List.getElem_append_right (by omega)]
        simp
      have HMG := hide (merge1 HY.out hlow hhigh)
      have HPX : Hid ((y1 ++ y :: y2).Perm (y1 ++ (y2 ++ [y]))) := hide (List.Perm.append_left y1 (by
        have h := List.perm_append_comm (l₁ := [y]) (l₂ := y2)
        exact h))
      have hr0 := HRS.out.1
      rw [HLE.out] at hr0
      have HR1 : Hid (∃ u v, y2 = u ++ v ∧ i + u.length = m ∧ Rest w wr B g c (p ++ y1 ++ u ++ y :: (v ++ q))) := hide ⟨y2, [], by simp, by omega, ⟨by simpa using hr0, HRS.out.2⟩⟩
      have HIL : Hid (p.length + y1.length = i) := hide (by omega)
      have him : i ≤ m := hjb
      clear hlow hhigh hr0 HRS HSR HMO HLE HY hy1 hy2 hN hb HXA hLN hlt hm ha
      go_wp2
      go_loopw [17] (fun u wr => ∃ (k : Nat), u = .int .i64 k ∧ i ≤ k ∧ k ≤ m ∧ Hid (∃ u v, y2 = u ++ v ∧ i + u.length = k ∧ Rest w wr B g c (p ++ y1 ++ u ++ y :: (v ++ q)))) (fun u _ => (intOf u).toNat)
      case atStart => exact ⟨m, rfl, him, Nat.le_refl _, HR1⟩
      case round =>
        clear HR1
        obtain ⟨k1, rfl, hak, hkn, HE⟩ := hrel
        by_cases hlt : i < k1
        · obtain ⟨k, rfl⟩ : ∃ k, k1 = k + 1 := ⟨k1 - 1, by omega⟩
          have hki : ((k : Int) + 1 > (i : Int)) := by omega
          have dki : decide ((k : Int) + 1 > (i : Int)) = true := decide_eq_true hki
          obtain ⟨u0, v, e1, e2, hr⟩ := HE.out
          obtain ⟨u, z, rfl⟩ := snoc_of (l := u0) (by omega)
          have hrow : RowAt wr B g c ((p ++ y1 ++ u) ++ z :: ([] ++ y :: (v ++ q))) := by simpa using hr.1
          have hsw := hrow.swaps (i := k) (j := k + 1) (m := []) (by rw [List.length_append, List.length_append, HIL.out]; rw [List.length_append] at e2; simp at e2; omega) (by simp)
          have HSW := hide hsw
          have HE1 := hide e1
          have HE2 := hide e2
          have HOUT0 := hide hr.2
          obtain ⟨c0, c1, c2, d0, d1, d2, hf, _, _, _, _⟩ := hsw
          have f0 := hf (k * 3)
          have f1 := hf (k * 3 + 1)
          have f2 := hf (k * 3 + 2)
          have g0 := hf ((k + 1) * 3)
          have g1 := hf ((k + 1) * 3 + 1)
          have g2 := hf ((k + 1) * 3 + 2)
          have ne0 : ¬ k * 3 = (k + 1) * 3 := by omega
          have nf0 : ¬ (k + 1) * 3 = k * 3 := by omega
          have ne1 : ¬ k * 3 = (k + 1) * 3 + 1 := by omega
          have nf1 : ¬ (k + 1) * 3 + 1 = k * 3 := by omega
          have ne2 : ¬ k * 3 = (k + 1) * 3 + 2 := by omega
          have nf2 : ¬ (k + 1) * 3 + 2 = k * 3 := by omega
          have ne3 : ¬ k * 3 + 1 = (k + 1) * 3 := by omega
          have nf3 : ¬ (k + 1) * 3 = k * 3 + 1 := by omega
          have ne4 : ¬ k * 3 + 1 = (k + 1) * 3 + 1 := by omega
          have nf4 : ¬ (k + 1) * 3 + 1 = k * 3 + 1 := by omega
          have ne5 : ¬ k * 3 + 1 = (k + 1) * 3 + 2 := by omega
          have nf5 : ¬ (k + 1) * 3 + 2 = k * 3 + 1 := by omega
          have ne6 : ¬ k * 3 + 2 = (k + 1) * 3 := by omega
          have nf6 : ¬ (k + 1) * 3 = k * 3 + 2 := by omega
          have ne7 : ¬ k * 3 + 2 = (k + 1) * 3 + 1 := by omega
          have nf7 : ¬ (k + 1) * 3 + 1 = k * 3 + 2 := by omega
          have ne8 : ¬ k * 3 + 2 = (k + 1) * 3 + 2 := by omega
          have nf8 : ¬ (k + 1) * 3 + 2 = k * 3 + 2 := by omega
          have hkN : k + 1 < N := by omega
          have hkNz : (k : Int) + 1 < (N : Int) := by omega
          clear HE e1 e2 hr hrow hf hki
          go_wp2_with fail
          go_big_region
          have hrow := HSW.out.row'.drew
          have hout := grown_drew (grown_trans HOUT0.out HSW.out.out')
          unfold set3 at hrow hout
          have HROW := hide hrow
          have HOUT := hide hout
          clear hrow hout c0 c1 c2 d0 d1 d2 f0 f1 f2 g0 g1 g2 HSW HOUT0
          go_wp2
          go_roundw
          case rel => exact ⟨k, by go_num, by omega, by omega, hide ⟨u, z :: v, by rw [HE1.out]; simp, by have := HE2.out; simp at this; omega, by have := HROW.out; simpa using this, HOUT.out⟩⟩
          case measure => simp [intOf]
        · obtain rfl : i = k1 := by omega
          have dki : decide ((i : Int) > (i : Int)) = false := decide_eq_false (by omega)
          obtain ⟨u, v, e1, e2, hr⟩ := HE.out
          obtain rfl : u = [] := List.eq_nil_of_length_eq_zero (by omega)
          have HX : Hid (RowAt wr B g c (p ++ (y1 ++ y :: y2) ++ q) ∧ w.grownBy wr (some g)) := hide ⟨by rw [e1]; have := hr.1; simpa using this, hr.2⟩
          clear HE e1 e2 hr
          go_wp2
          go_end0
          exact ⟨y1 ++ y :: y2, HMG.out, by simpa using HPX.out, rfl, HX.out.1, HX.out.2⟩
end Go.Proofs.Ytjaofdalmjiliaa
namespace Go.Proofs.Ytjaofdalmjiliaa
open Go.RowKit
set_option linter.unusedVariables false

/-- Where the search by halves of a merge begins. -/
structure Ends3 (a m b mid s0 r0 : Nat) : Prop where
  h1 : a ≤ s0
  h2 : s0 ≤ r0
  h3 : r0 ≤ m
  h4 : r0 ≤ mid
  h5 : mid + m ≤ s0 + b
  h6 : s0 = a ∨ s0 + b = mid + m
  h7 : r0 = m ∨ r0 = mid
theorem look_x {p x y q : List Gm} {a m c : Nat} (ha : p.length = a) (hm : a + x.length = m) (h1 : a ≤ c) (h2 : c < m) : (p ++ x ++ y ++ q)[c]? = some (x[c - a]'(by omega)) := by
  rw [List.append_assoc (p ++ x)]
  exact look_mid' (by omega) (by omega)
theorem look_y {p x y q : List Gm} {a m b c : Nat} (ha : p.length = a) (hm : a + x.length = m) (hb : m + y.length = b) (h1 : m ≤ c) (h2 : c < b) : (p ++ x ++ y ++ q)[c]? = some (y[c - m]'(by omega)) :=
  look_mid' (p := p ++ x) (by omega) (by rw [List.length_append]; omega)
theorem mono3 {p x y q : List Gm} {a m b mid s0 r0 : Nat} (ha : p.length = a) (hm : a + x.length = m) (hb : m + y.length = b) (hx : Up x) (hy : Up y) (h : Ends3 a m b mid s0 r0) : Mono (P3 (p ++ x ++ y ++ q) (mid + m)) s0 r0 := by
  obtain ⟨h1, h2, h3, h4, h5, _, _⟩ := h
  intro c d k1 k2 k3 hp u v hu hv
  rw [look_y ha hm hb (by omega) (by omega)] at hu
  rw [look_x ha hm (by omega) (by omega)] at hv
  injection hu with hu
  injection hv with hv
  subst hu hv
  have hlt := hp _ _ (look_y ha hm hb (c := mid + m - 1 - c) (by omega) (by omega)) (look_x ha hm (c := c) (by omega) (by omega))
  exact Le.lt_trans (up_at_le hy (by omega) (by omega)) (Lt.le_trans hlt (up_at_le hx (by omega) (by omega)))
/-- What the search has found. -/
theorem found3 {p x1 x2 y1 y2 q : List Gm} {a m b mid s0 r0 s e : Nat} (ha : p.length = a) (hm : a + (x1 ++ x2).length = m) (hb : m + (y1 ++ y2).length = b) (hx : Up (x1 ++ x2)) (hy : Up (y1 ++ y2)) (h : Ends3 a m b mid s0 r0)
    (hs : Srch (P3 (p ++ (x1 ++ x2) ++ (y1 ++ y2) ++ q) (mid + m)) s0 r0 s s) (hx1 : a + x1.length = s) (he : e + s = mid + m) (hy1 : m + y1.length = e) : (∀ u ∈ x1, ∀ v ∈ y2, Le u v) ∧ (∀ u ∈ y1, ∀ v ∈ x2, Le u v) := by
  obtain ⟨h1, h2, h3, h4, h5, h6, h7⟩ := h
  have hl0 := hs.l0
  have hl2 := hs.l2
  have lx := hm
  have ly := hb
  rw [List.length_append] at lx ly
  constructor
  · intro u hu v hv
    obtain ⟨i, hi, rfl⟩ := List.getElem_of_mem hu
    obtain ⟨j, hj, rfl⟩ := List.getElem_of_mem hv
    have hno := hs.no (s - 1) (by omega) (by omega)
    have hle : Le ((x1 ++ x2)[s - 1 - a]'(by rw [List.length_append]; omega)) ((y1 ++ y2)[mid + m - 1 - (s - 1) - m]'(by rw [List.length_append]; omega)) := fun hl => hno (fun u v hu hv => by
      rw [look_y ha hm hb (by omega) (by omega)] at hu
      rw [look_x ha hm (by omega) (by omega)] at hv
      injection hu with hu
      injection hv with hv
      subst hu hv
      exact hl)
    have e1 := up_at_le hx (i := i) (j := s - 1 - a) (by omega) (by rw [List.length_append]; omega)
    have e2 := up_at_le hy (i := mid + m - 1 - (s - 1) - m) (j := y1.length + j) (by omega) (by rw [List.length_append]; omega)
    rw [List.getElem_append_left hi] at e1
    have e3 : (y1 ++ y2)[y1.length + j]'(by rw [List.length_append]; omega) = y2[j] := by rw [List.getElem_append_right (by omega)]; simp
    rw [e3] at e2
    exact e1.trans (hle.trans e2)
  · intro u hu v hv
    obtain ⟨i, hi, rfl⟩ := List.getElem_of_mem hu
    obtain ⟨j, hj, rfl⟩ := List.getElem_of_mem hv
    have hyes := hs.yes s (by omega) (by omega)
    have hlt := hyes _ _ (look_y ha hm hb (c := mid + m - 1 - s) (by omega) (by omega)) (look_x ha hm (c := s) (by omega) (by omega))
    have e1 := up_at_le hy (i := i) (j := mid + m - 1 - s - m) (by omega) (by rw [List.length_append]; omega)
    have e2 := up_at_le hx (i := s - a) (j := x1.length + j) (by omega) (by rw [List.length_append]; omega)
    rw [List.getElem_append_left hi] at e1
    have e3 : (x1 ++ x2)[x1.length + j]'(by rw [List.length_append]; omega) = x2[j] := by rw [List.getElem_append_right (by omega)]; simp
    rw [e3] at e2
    exact e1.trans (hlt.le.trans e2)
end Go.Proofs.Ytjaofdalmjiliaa
