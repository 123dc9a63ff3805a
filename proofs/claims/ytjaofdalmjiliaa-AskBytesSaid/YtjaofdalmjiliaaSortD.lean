/-
  SORTING: CONTRACT OF slices.symMergeCmpFunc.
-/
import Derived.Test.YtjaofdalmjiliaaSortA
namespace Go.Proofs.Ytjaofdalmjiliaa
open Go.RowKit
set_option linter.unusedVariables false

theorem rest_perm {w wr : World} {B g c : Nat} {p C q : List Gm} {L : List Gm} (h : Rest w wr B g c L) (e : L = p ++ C ++ q) : Rest w wr B g c (p ++ C ++ q) := e ▸ h
theorem up_nil_left {l : List Gm} (h : Up l) : Up ([] ++ l) := h
set_option maxHeartbeats 8000000 in
set_option maxRecDepth 20000 in
theorem symMerge_any (B g c N : Nat) (hN2 : N ≤ 1000000) : ∀ (D : Nat) (p x y q : List Gm) (a m b : Nat) (w : World), b - a ≤ D → (p ++ x ++ y ++ q).length = N → p.length = a → a + x.length = m → m + y.length = b → 0 < x.length → 0 < y.length → Up x → Up y → RowAt w B g c (p ++ x ++ y ++ q) →
    Calls Try.prog 53 #[.slice (some ⟨g, 0, none⟩) N c, .int .i64 a, .int .i64 m, .int .i64 b, cmpV] w (InsPost w B g c p (x ++ y) q) := by
  intro D
  induction D with
  | zero =>
    intro p x y q a m b w hD hN ha hm hb hx0 hy0 hx hy h
    omega
  | succ D ih =>
    intro p x y q a m b w hD hN ha hm hb hx0 hy0 hx hy h
    by_cases hx1 : x.length = 1
    · obtain ⟨u, rfl⟩ : ∃ u, x = [u] := by
        cases x with
        | nil => simp at hx1
        | cons u v => cases v with
          | nil => exact ⟨u, rfl⟩
          | cons _ _ => simp at hx1
      exact sym1_any B g c N p y q u a m b w hN hN2 ha (by simpa using hm) hb hy h
    by_cases hy1 : y.length = 1
    · obtain ⟨u, rfl⟩ : ∃ u, y = [u] := by
        cases y with
        | nil => simp at hy1
        | cons u v => cases v with
          | nil => exact ⟨u, rfl⟩
          | cons _ _ => simp at hy1
      exact sym2_any B g c N p x q u a m b w hN hN2 ha hm (by simpa using hb) (by omega) hx h
    have hbN : b ≤ N := by rw [← hN]; simp; omega
    obtain ⟨mid, hmid⟩ : ∃ mid, mid = (a + b) / 2 := ⟨_, rfl⟩
    have hmi := half_int a b mid hmid
    have HL := hide (⟨hN, ha, hm, hb, hx, hy⟩ : _ ∧ _ ∧ _ ∧ _ ∧ _ ∧ _)
    have HRS : Hid (Rest w w B g c (p ++ x ++ y ++ q)) := hide ⟨h, World.grownBy.refl w _⟩
    have HIH := hide ih
    have o1 : (((m : Int) - (a : Int)) == 1) = false := beq_eq_false_iff_ne.2 (by omega)
    have o2 : (((b : Int) - (m : Int)) == 1) = false := beq_eq_false_iff_ne.2 (by omega)
    have k1 : a + 2 ≤ m := by omega
    have k2 : m + 2 ≤ b := by omega
    have k3 : a < mid := by omega
    have k4 : mid < b := by omega
    have k5 : mid - a ≤ D := by omega
    have k6 : b - mid ≤ D := by omega
    have k7 : 2 * mid ≤ a + b := by omega
    have k8 : a + b ≤ 2 * mid + 1 := by omega
    have HXYL := hide (⟨hx0, hy0⟩ : _ ∧ _)
    clear hmid hN ha hm hb hx hy h ih hx1 hy1 hx0 hy0 hD
    unfold cmpV at HIH ⊢
    go_enter Try.func53, Try.ntmps53
    go_upto_if 140 with (fail)
    go_cut [20, 21] (fun u v w' => ∃ s0 r0 : Nat, u = .int .i64 s0 ∧ v = .int .i64 r0 ∧ Ends3 a m b mid s0 r0 ∧ w = w')
    case first => as_aux_lemma =>
      clear HIH HL HRS HXYL
      by_cases hmm : mid < m
      · have d1 : decide ((m : Int) > (mid : Int)) = true := decide_eq_true (by omega)
        go_wp2
        go_meet
        exact ⟨mid + m - b, mid, by congr 1; omega, rfl, ⟨by omega, by omega, by omega, by omega, by omega, .inr (by omega), .inr rfl⟩, rfl⟩
      · have d1 : decide ((m : Int) > (mid : Int)) = false := decide_eq_false (by omega)
        go_wp2
        go_meet
        exact ⟨a, m, rfl, rfl, ⟨by omega, by omega, by omega, by omega, by omega, .inl rfl, .inl rfl⟩, rfl⟩
    case rest => as_aux_lemma =>
      obtain ⟨s0, r0, rfl, rfl, hends, rfl⟩ := hcut
      obtain ⟨hN, ha, hm, hb, hx, hy⟩ := HL.out
      have HMO := hide (mono3 (q := q) ha hm hb hx hy hends)
      obtain ⟨L, hL⟩ : ∃ L, L = p ++ x ++ y ++ q := ⟨_, rfl⟩
      rw [← hL] at HMO HRS
      have hLN : L.length = N := by rw [hL]; exact hN
      have HLE := hide hL
      have HENDS := hide hends
      have e1 := hends.h1
      have e2 := hends.h2
      have e3 := hends.h3
      have e4 := hends.h4
      have e5 := hends.h5
      clear hN ha hm hb hx hy hends hL
      go_wp2
      go_loopw [20, 21] (fun u v wr => ∃ (i j : Nat), u = .int .i64 i ∧ v = .int .i64 j ∧ s0 ≤ i ∧ i ≤ j ∧ j ≤ r0 ∧ Hid (Srch (P3 L (mid + m)) s0 r0 i j) ∧ Hid (Rest w wr B g c L)) (fun u v _ => (intOf v).toNat - (intOf u).toNat)
      case atStart => exact ⟨s0, r0, rfl, rfl, Nat.le_refl _, e2, Nat.le_refl _, hide (Srch.start _ _ _ e2), HRS⟩
      case round =>
        clear HRS
        obtain ⟨i, j, rfl, rfl, hsi, hij, hjr, HSR, HRS⟩ := hrel
        by_cases hlt : i < j
        · obtain ⟨h, hh⟩ : ∃ h, h = (i + j) / 2 := ⟨_, rfl⟩
          have hhi := half_int i j h hh
          have h1 : i ≤ h := by omega
          have h2 : h < j := by omega
          obtain ⟨u, hu⟩ : ∃ u, u = mid + m - 1 - h := ⟨_, rfl⟩
          have hui : (mid : Int) + (m : Int) - 1 - (h : Int) = (u : Int) := by omega
          have hhL : h < L.length := by omega
          have huL : u < L.length := by omega
          have HSL := hide (fun hn => HSR.out.low HMO.out h1 h2 hn)
          have HSH := hide (fun hp => HSR.out.high HMO.out h1 h2 hp)
          have he : L[h]? = some L[h] := List.getElem?_eq_getElem hhL
          have hf : L[mid + m - 1 - h]? = some L[u] := by rw [← hu]; exact List.getElem?_eq_getElem huL
          have hf' : L[u]? = some L[u] := List.getElem?_eq_getElem huL
          generalize L[h] = z at he
          generalize L[u] = y' at hf hf'
          obtain ⟨c0, c1, c2, d0, d1, d2⟩ := HRS.out.1.two hf' he
          have HP1 : Hid (¬ Lt y' z → ¬ P3 L (mid + m) h) := hide (fun hl hp => hl (hp y' z hf he))
          have HP2 : Hid (Lt y' z → P3 L (mid + m) h) := hide (fun hl u v hu hv => by rw [hf] at hu; rw [he] at hv; injection hu with hu; injection hv with hv; subst hu hv; exact hl)
          have HX := hide (cmp_in y' z wr)
          have hhN : (h : Int) < (N : Int) := by omega
          have huN : (u : Int) < (N : Int) := by omega
          clear he hf hf' hh hhL huL hu
          generalize hcz : cmpG y' z = cz at *
          have HCZ := hide hcz
          clear hcz
          by_cases hlv : cz < 0
          · have dz : decide (cz < 0) = true := decide_eq_true hlv
            have HSN := hide (HSH.out (HP2.out (cmpG_neg.1 (HCZ.out ▸ hlv))))
            clear hlv HSL HSH HP1 HP2
            go_wp2_with fail
            refine wp_region_in (C := Aft wr) (by kernel_rfl) (by kernel_rfl) (aft_drew wr) ?_
            repeat (go_big_quiet_step (exact in_call fun w' hb => HX.out w' hb))
            refine wpQuiet_nil ?_
            intro w2 hb2
            have HR3 := hide (HRS.out.below hb2)
            clear c0 c1 c2 d0 d1 d2 HX hb2 HRS hhi
            go_wp2
            go_roundw
            case rel => exact ⟨i, h, rfl, by go_num, hsi, h1, by omega, HSN, HR3⟩
            case measure => simp [intOf]; omega
          · have dz : decide (cz < 0) = false := decide_eq_false hlv
            have HSN := hide (HSL.out (HP1.out (fun hl => hlv (HCZ.out ▸ cmpG_neg.2 hl))))
            clear hlv HSL HSH HP1 HP2
            go_wp2_with fail
            refine wp_region_in (C := Aft wr) (by kernel_rfl) (by kernel_rfl) (aft_drew wr) ?_
            repeat (go_big_quiet_step (exact in_call fun w' hb => HX.out w' hb))
            refine wpQuiet_nil ?_
            intro w2 hb2
            have HR3 := hide (HRS.out.below hb2)
            clear c0 c1 c2 d0 d1 d2 HX hb2 HRS hhi
            go_wp2
            go_roundw
            case rel => exact ⟨h + 1, j, by go_num, rfl, by omega, by omega, hjr, HSN, HR3⟩
            case measure => simp [intOf]; omega
        · obtain rfl : i = j := by omega
          obtain ⟨hN, ha, hm, hb, hx, hy⟩ := HL.out
          obtain ⟨e, he⟩ : ∃ e, e = mid + m - i := ⟨_, rfl⟩
          have hei : (mid : Int) + (m : Int) - (i : Int) = (e : Int) := by omega
          obtain ⟨x1, x2, rfl, hx1, hx2⟩ := cut_two x (i - a) (by omega)
          obtain ⟨y1, y2, rfl, hy1, hy2⟩ := cut_two y (e - m) (by omega)
          have hsr := HSR.out
          rw [HLE.out] at hsr
          have HFD := hide (found3 (e := e) ha hm hb hx hy HENDS.out hsr (by omega) (by omega) (by omega))
          have hl1 := hm
          have hl2 := hb
          rw [List.length_append] at hl1 hl2
          have HRS2 : Hid (Rest w wr B g c (p ++ (x1 ++ x2) ++ (y1 ++ y2) ++ q)) := hide (by have := HRS.out; rwa [HLE.out] at this)
          have HU := hide (⟨hx, hy⟩ : _ ∧ _)
          have HA := hide ha
          have HNN : Hid (p.length + x1.length + x2.length + y1.length + y2.length + q.length = N) := hide (by rw [← hN]; simp only [List.length_append]; omega)
          have HX1 : Hid (a + x1.length = i) := hide (by omega)
          have HX2 : Hid (i + x2.length = m) := hide (by omega)
          have HY1 : Hid (m + y1.length = e) := hide (by omega)
          have HY2 : Hid (e + y2.length = b) := hide (by omega)
          have j1 : a ≤ i := by omega
          have j2 : i ≤ m := by omega
          have j3 : i ≤ mid := by omega
          have j4 : e + i = mid + m := by omega
          have j5 : m ≤ e := by omega
          have j6 : e ≤ b := by omega
          have j7 : mid ≤ e := by omega
          clear hN ha hm hb hx hy hx1 hx2 hy1 hy2 hsr HSR HRS HMO HENDS HL hl1 hl2 he e1 e2 e3 e4 e5 hlt HXYL hsi hjr hmi k7 k8 o1 o2
          go_upto_region 39 with (fail)
          go_cut [185] (fun v w' => ∃ β : Bool, v = .bool β ∧ β = (decide ((i : Int) < (m : Int)) && decide ((m : Int) < (e : Int))) ∧ wr = w')
          case first => as_aux_lemma =>
            clear HIH HFD HU HRS2
            by_cases d1 : (i : Int) < (m : Int)
            · by_cases d2 : (m : Int) < (e : Int)
              · have HT : Hid (true = (decide ((i : Int) < (m : Int)) && decide ((m : Int) < (e : Int)))) := hide (by rw [decide_eq_true d1, decide_eq_true d2]; rfl)
                go_wp2
                go_meet
                exact ⟨true, rfl, HT.out, rfl⟩
              · have HT : Hid (false = (decide ((i : Int) < (m : Int)) && decide ((m : Int) < (e : Int)))) := hide (by rw [decide_eq_false d2, Bool.and_false])
                go_wp2
                go_meet
                exact ⟨false, rfl, HT.out, rfl⟩
            · have HT : Hid (false = (decide ((i : Int) < (m : Int)) && decide ((m : Int) < (e : Int)))) := hide (by rw [decide_eq_false d1]; rfl)
              go_wp2
              go_meet
              exact ⟨false, rfl, HT.out, rfl⟩
          case rest => as_aux_lemma =>
          obtain ⟨β, rfl, hβ, hw⟩ := hcut
          subst hw
          have HBT := hide hβ
          clear hβ
          go_upto_if 185 with (fail)
          go_cut [24] (fun v w' => v = .int .i64 (e : Nat) ∧ Rest w w' B g c (p ++ x1 ++ y1 ++ x2 ++ y2 ++ q))
          case first => as_aux_lemma =>
            clear HIH HFD HU
            by_cases d1 : i < m
            · have z1 : (i : Int) < (m : Int) := by omega
              by_cases d2 : m < e
              · have z2 : (m : Int) < (e : Int) := by omega
                obtain rfl : β = true := by rw [HBT.out, decide_eq_true z1, decide_eq_true z2]; rfl
                have HRT := hide (rotate_any B g c N (p ++ x1) x2 y1 (y2 ++ q) i m e (.func (.func 26) #[] #[]) wr (by rw [← HNN.out]; simp only [List.length_append]; omega) hN2 (by rw [List.length_append, HA.out]; exact HX1.out) HX2.out HY1.out (by have := HX2.out; omega) (by have := HY1.out; omega) (by have := HRS2.out.1; simpa using this))
                go_wp2_with fail
                refine HRT.out.mono ?_
                rintro e w2 ⟨rfl, hrow, hout⟩
                have HRW : Hid (Rest w w2 B g c (p ++ x1 ++ y1 ++ x2 ++ y2 ++ q)) := hide ⟨by have := hrow; simpa using this, grown_trans HRS2.out.2 hout⟩
                clear HRT hrow hout
                go_wp2
                go_meet
                exact ⟨rfl, HRW.out⟩
              · have z2 : ¬ (m : Int) < (e : Int) := by omega
                obtain rfl : β = false := by rw [HBT.out, decide_eq_false z2, Bool.and_false]
                obtain rfl : y1 = [] := List.eq_nil_of_length_eq_zero (by have := HY1.out; omega)
                have HRW : Hid (Rest w wr B g c (p ++ x1 ++ [] ++ x2 ++ y2 ++ q)) := hide (by have := HRS2.out; simpa using this)
                go_wp2
                go_meet
                exact ⟨rfl, HRW.out⟩
            · have z1 : ¬ (i : Int) < (m : Int) := by omega
              obtain rfl : β = false := by rw [HBT.out, decide_eq_false z1]; rfl
              obtain rfl : x2 = [] := List.eq_nil_of_length_eq_zero (by have := HX2.out; omega)
              have HRW : Hid (Rest w wr B g c (p ++ x1 ++ y1 ++ [] ++ y2 ++ q)) := hide (by have := HRS2.out; simpa using this)
              go_wp2
              go_meet
              exact ⟨rfl, HRW.out⟩
          case rest => as_aux_lemma =>
            obtain ⟨rfl, hrs⟩ := hcut
            obtain ⟨wm, hwm⟩ : ∃ wm, wm = wc := ⟨_, rfl⟩
            subst hwm
            have HRS3 := hide hrs
            clear hrs HRS2
            go_upto_region 41 with (fail)
            go_cut [199] (fun v w' => ∃ β : Bool, v = .bool β ∧ β = (decide ((a : Int) < (i : Int)) && decide ((i : Int) < (mid : Int))) ∧ wm = w')
            case first => as_aux_lemma =>
              clear HIH HFD HU
              by_cases d1 : (a : Int) < (i : Int)
              · by_cases d2 : (i : Int) < (mid : Int)
                · have HT : Hid (true = (decide ((a : Int) < (i : Int)) && decide ((i : Int) < (mid : Int)))) := hide (by rw [decide_eq_true d1, decide_eq_true d2]; rfl)
                  go_wp2
                  go_meet
                  exact ⟨true, rfl, HT.out, rfl⟩
                · have HT : Hid (false = (decide ((a : Int) < (i : Int)) && decide ((i : Int) < (mid : Int)))) := hide (by rw [decide_eq_false d2, Bool.and_false])
                  go_wp2
                  go_meet
                  exact ⟨false, rfl, HT.out, rfl⟩
              · have HT : Hid (false = (decide ((a : Int) < (i : Int)) && decide ((i : Int) < (mid : Int)))) := hide (by rw [decide_eq_false d1]; rfl)
                go_wp2
                go_meet
                exact ⟨false, rfl, HT.out, rfl⟩
            case rest => as_aux_lemma =>
            obtain ⟨β, rfl, hβ, hw⟩ := hcut
            subst hw
            have HBT := hide hβ
            clear hβ
            go_upto_if 199 with (fail)
            go_cut [24] (fun v w' => v = .int .i64 (e : Nat) ∧ ∃ C1, Up C1 ∧ C1.Perm (x1 ++ y1) ∧ Rest w w' B g c (p ++ C1 ++ x2 ++ y2 ++ q))
            case first => as_aux_lemma =>
              by_cases d1 : a < i
              · have z1 : (a : Int) < (i : Int) := by omega
                by_cases d2 : i < mid
                · have z2 : (i : Int) < (mid : Int) := by omega
                  obtain rfl : β = true := by rw [HBT.out, decide_eq_true z1, decide_eq_true z2]; rfl
                  have HIC := hide (HIH.out p x1 y1 (x2 ++ y2 ++ q) a i mid wm k5 (by rw [← HNN.out]; simp only [List.length_append]; omega) HA.out HX1.out (by have := HY1.out; omega) (by have := HX1.out; omega) (by have := HY1.out; omega) HU.out.1.cut.1 HU.out.2.cut.1 (by have := HRS3.out.1; simpa using this))
                  clear HIH
                  go_wp2_with fail
                  refine HIC.out.mono ?_
                  rintro e w2 ⟨C, hup, hpm, rfl, hrow, hout⟩
                  have HRW : Hid (∃ C1, Up C1 ∧ C1.Perm (x1 ++ y1) ∧ Rest w w2 B g c (p ++ C1 ++ x2 ++ y2 ++ q)) := hide ⟨C, hup, hpm, by have := hrow; simpa using this, grown_trans HRS3.out.2 hout⟩
                  clear HIC hup hpm hrow hout
                  go_wp2
                  go_meet
                  exact ⟨rfl, HRW.out⟩
                · have z2 : ¬ (i : Int) < (mid : Int) := by omega
                  obtain rfl : β = false := by rw [HBT.out, decide_eq_false z2, Bool.and_false]
                  obtain rfl : y1 = [] := List.eq_nil_of_length_eq_zero (by have := HY1.out; omega)
                  have HRW : Hid (∃ C1, Up C1 ∧ C1.Perm (x1 ++ []) ∧ Rest w wm B g c (p ++ C1 ++ x2 ++ y2 ++ q)) := hide ⟨x1, HU.out.1.cut.1, by rw [List.append_nil], by have := HRS3.out; rwa [List.append_nil] at this⟩
                  clear HIH
                  go_wp2
                  go_meet
                  exact ⟨rfl, HRW.out⟩
              · have z1 : ¬ (a : Int) < (i : Int) := by omega
                obtain rfl : β = false := by rw [HBT.out, decide_eq_false z1]; rfl
                obtain rfl : x1 = [] := List.eq_nil_of_length_eq_zero (by have := HX1.out; omega)
                have HRW : Hid (∃ C1, Up C1 ∧ C1.Perm ([] ++ y1) ∧ Rest w wm B g c (p ++ C1 ++ x2 ++ y2 ++ q)) := hide ⟨y1, HU.out.2.cut.1, by rw [List.nil_append], by have := HRS3.out; rwa [List.append_nil] at this⟩
                clear HIH
                go_wp2
                go_meet
                exact ⟨rfl, HRW.out⟩
            case rest => as_aux_lemma =>
              obtain ⟨rfl, C1, hup1, hpm1, hrs⟩ := hcut
              have HRS4 := hide hrs
              have HC1 := hide (⟨hup1, hpm1⟩ : _ ∧ _)
              have HCL : Hid (a + C1.length = mid) := hide (by have := hpm1.length_eq; rw [List.length_append] at this; have := HX1.out; have := HY1.out; omega)
              clear hrs HRS3 hup1 hpm1
              obtain ⟨wn, hwn⟩ : ∃ wn, wn = wc := ⟨_, rfl⟩
              subst hwn
              go_upto_region 43 with (fail)
              go_cut [213] (fun v w' => ∃ β : Bool, v = .bool β ∧ β = (decide ((mid : Int) < (e : Int)) && decide ((e : Int) < (b : Int))) ∧ wn = w')
              case first => as_aux_lemma =>
                clear HIH HFD HU
                by_cases d1 : (mid : Int) < (e : Int)
                · by_cases d2 : (e : Int) < (b : Int)
                  · have HT : Hid (true = (decide ((mid : Int) < (e : Int)) && decide ((e : Int) < (b : Int)))) := hide (by rw [decide_eq_true d1, decide_eq_true d2]; rfl)
                    go_wp2
                    go_meet
                    exact ⟨true, rfl, HT.out, rfl⟩
                  · have HT : Hid (false = (decide ((mid : Int) < (e : Int)) && decide ((e : Int) < (b : Int)))) := hide (by rw [decide_eq_false d2, Bool.and_false])
                    go_wp2
                    go_meet
                    exact ⟨false, rfl, HT.out, rfl⟩
                · have HT : Hid (false = (decide ((mid : Int) < (e : Int)) && decide ((e : Int) < (b : Int)))) := hide (by rw [decide_eq_false d1]; rfl)
                  go_wp2
                  go_meet
                  exact ⟨false, rfl, HT.out, rfl⟩
              case rest => as_aux_lemma =>
              obtain ⟨β, rfl, hβ, hw⟩ := hcut
              subst hw
              have HBT := hide hβ
              clear hβ
              by_cases d1 : mid < e
              · have z1 : (mid : Int) < (e : Int) := by omega
                by_cases d2 : e < b
                · have z2 : (e : Int) < (b : Int) := by omega
                  obtain rfl : β = true := by rw [HBT.out, decide_eq_true z1, decide_eq_true z2]; rfl
                  have HIC := hide (HIH.out (p ++ C1) x2 y2 q mid e b wn k6 (by have h1 := HCL.out; have h2 := HX1.out; have h3 := HY1.out; rw [← HNN.out]; simp only [List.length_append]; have := HA.out; omega) (by rw [List.length_append, HA.out]; exact HCL.out) (by have := HX2.out; omega) HY2.out (by have := HX2.out; omega) (by have := HY2.out; omega) HU.out.1.cut.2.1 HU.out.2.cut.2.1 (by have := HRS4.out.1; simpa using this))
                  clear HIH
                  go_wp2_with fail
                  refine HIC.out.mono ?_
                  rintro e w2 ⟨C2, hup, hpm, rfl, hrow, hout⟩
                  have hm3 := merge3 HU.out.1 HU.out.2 HFD.out.1 HFD.out.2 HC1.out.1 hup HC1.out.2 hpm
                  have HM3 := hide hm3
                  have HRW : Hid (Rest w w2 B g c (p ++ (C1 ++ C2) ++ q)) := hide ⟨by have := hrow; simpa using this, grown_trans HRS4.out.2 hout⟩
                  clear HIC hup hpm hrow hout hm3
                  go_wp2
                  go_end0
                  exact ⟨C1 ++ C2, HM3.out.1, by simpa using HM3.out.2, rfl, HRW.out.1, HRW.out.2⟩
                · have z2 : ¬ (e : Int) < (b : Int) := by omega
                  obtain rfl : β = false := by rw [HBT.out, decide_eq_false z2, Bool.and_false]
                  obtain rfl : y2 = [] := List.eq_nil_of_length_eq_zero (by have := HY2.out; omega)
                  have HM3 := hide (merge3 HU.out.1 HU.out.2 HFD.out.1 HFD.out.2 HC1.out.1 HU.out.1.cut.2.1 HC1.out.2 (by rw [List.append_nil]))
                  have HRW : Hid (Rest w wn B g c (p ++ (C1 ++ x2) ++ q)) := hide (by have := HRS4.out; simpa using this)
                  clear HIH
                  go_wp2
                  go_end0
                  exact ⟨C1 ++ x2, HM3.out.1, by simpa using HM3.out.2, rfl, HRW.out.1, HRW.out.2⟩
              · have z1 : ¬ (mid : Int) < (e : Int) := by omega
                obtain rfl : β = false := by rw [HBT.out, decide_eq_false z1]; rfl
                obtain rfl : x2 = [] := List.eq_nil_of_length_eq_zero (by have := HX2.out; omega)
                have HM3 := hide (merge3 HU.out.1 HU.out.2 HFD.out.1 HFD.out.2 HC1.out.1 HU.out.2.cut.2.1 HC1.out.2 (by rw [List.nil_append]))
                have HRW : Hid (Rest w wn B g c (p ++ (C1 ++ y2) ++ q)) := hide (by have := HRS4.out; simpa using this)
                clear HIH
                go_wp2
                go_end0
                exact ⟨C1 ++ y2, HM3.out.1, by simpa using HM3.out.2, rfl, HRW.out.1, HRW.out.2⟩
end Go.Proofs.Ytjaofdalmjiliaa
