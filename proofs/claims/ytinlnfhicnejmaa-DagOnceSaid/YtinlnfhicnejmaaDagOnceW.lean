/-
  THE WALK OF bailifflaw16.DagOnce: it returns true; only new memory is laid.
-/
import Derived.Test.YtinlnfhicnejmaaDagOnceM
import Derived.Test.YtinlnfhicnejmaaDagMade
import Derived.Test.YtinlnfhicnejmaaOpen16
import Derived.Deep.RegionHeld3
import Derived.Deep.Cut
import Derived.Deep.CutRange
import Derived.Deep.CutBlock
import Derived.Deep.DeepCutAuto
namespace Go.Proofs.Ytinlnfhicnejmaa
open Go.RowKit
set_option linter.unusedVariables false

theorem infoInts : (Try.prog.info? 60).map (fun i => (i.zero, i.size, i.bytes)) = some (some (.slice none 0 0), 1, 24) := by kernel_rfl
/-- Behind so many of the asked branches. -/
def OnceRel (w : World) (g : Nat) (v i : Value) (wr : World) : Prop := ∃ (k : Nat) (L : List Br) (W : List Int), k ≤ 24 ∧ i = .int .i64 k ∧ L.length ≤ k ∧ 3 ≤ W.length ∧ W.length ≤ k + 3 ∧ Ways w g v W L wr
/-- Behind all of them. -/
def OnceAll (w : World) (g : Nat) (v : Value) (wr : World) : Prop := ∃ (L : List Br) (W : List Int), L.length ≤ 24 ∧ W.length ≤ 27 ∧ Ways w g v W L wr
set_option maxHeartbeats 4000000 in
set_option maxRecDepth 20000 in
theorem dagOnce_walk (a0 : Option Addr) (cap0 : Nat) (l0 : List A5) (w : World) (hl0 : l0.length ≤ cap0) (hm0 : cap0 ≤ maxLen) (s0 : Sl w w.heap.size a0 (cells5 l0)) :
    Calls Try.prog 12 #[.slice a0 l0.length cap0] w fun e w' => e = .returned (.bool true) ∧ Below w.heap.size w w' := by
  unfold maxLen at hm0
  have HS0 := hide s0
  clear s0
  go_enter Try.func12, Try.ntmps12
  go_wp2_with fail
  refine (new_own 60 (by decide) (by decide) w).mono ?_
  rintro e w1 ⟨rfl, ho⟩
  have H1 := hide ho
  clear ho
  generalize hg : w.heap.size = g at *
  have HST := hide (Ways.start H1.out)
  go_upto_block 0 with (fail)
  go_cut [5] from 6 to 80 (fun v w' => OnceAll w g v w')
  case first =>
    go_wp2
    go_loopw [5, 6] (fun v i wr => OnceRel w g v i wr) (fun _ i _ => 24 - (intOf i).toNat)
    case atStart => exact ⟨0, [], [-1, -2, -3], by omega, rfl, by simp, by simp, by simp, HST.out⟩
    case round =>
      clear H1 HST
      obtain ⟨k, L, W, hk, rfl, hL, h3, hW, hww⟩ := hrel
      have HW := hide hww
      clear hww
      by_cases hlt : k < l0.length
      · by_cases h24 : k < 24
        · obtain ⟨b, off, rfl, hb, x0, x1, x2, x3, x4⟩ := HS0.out.ask5 hlt
          have hb' : b < w.heap.size := hg.symm ▸ hb
          have hk1 : IntKind.i64.wrap ((k : Int) + 1) = (k : Int) + 1 := IntWalk.i64_in _ (by omega)
          have hn1 : IntKind.i64.wrap ((W.length : Int) - 1) = (W.length : Int) - 1 := IntWalk.i64_in _ (by omega)
          generalize l0[k] = p at *
          obtain ⟨p0, p1, p2, p3, p4⟩ := p
          simp only at x0 x1 x2 x3 x4
          obtain ⟨A, c, hv, hnc, hsl, _⟩ := own_slice HW.out.row
          subst hv
          have j0 := build_one
          have W0 := hide (fun w => within_any p0 0 3 w (by omega) (by omega) (by omega))
          have W1 := hide (fun v w => within_any v 0 ((W.length : Int) - 1) w (by omega) (by omega) (by omega))
          have L0 := hide (fun v => (⟨within_lo v 0 ((W.length : Int) - 1) (by omega), within_hi v 0 ((W.length : Int) - 1) (by omega)⟩ : 0 ≤ within v 0 ((W.length : Int) - 1) ∧ within v 0 ((W.length : Int) - 1) ≤ (W.length : Int) - 1))
          have HF := hide (fun w' (hbw : Below w.heap.size w w') => (⟨(hbw.cell hb').trans x0, (hbw.cell hb').trans x1, (hbw.cell hb').trans x2, (hbw.cell hb').trans x3⟩ : w'.cell? ⟨b, off + k * 5, none⟩ = some (.int .i64 p0) ∧ w'.cell? ⟨b, off + k * 5 + 1, none⟩ = some (.int .i64 p1) ∧ w'.cell? ⟨b, off + k * 5 + 2, none⟩ = some (.int .i64 p2) ∧ w'.cell? ⟨b, off + k * 5 + 3, none⟩ = some (.int .i64 p3)))
          have y0 := (HF.out wr HW.out.own.2).1
          have y1 : ∀ o, (wr.alloc o).cell? ⟨b, off + k * 5 + 1, none⟩ = some (.int .i64 p1) := fun o => (HF.out _ (below_on HW.out.own.2 (below_new wr o))).2.1
          have y2 : ∀ o, (wr.alloc o).cell? ⟨b, off + k * 5 + 2, none⟩ = some (.int .i64 p2) := fun o => (HF.out _ (below_on HW.out.own.2 (below_new wr o))).2.2.1
          have y3 : ∀ o, (wr.alloc o).cell? ⟨b, off + k * 5 + 3, none⟩ = some (.int .i64 p3) := fun o => (HF.out _ (below_on HW.out.own.2 (below_new wr o))).2.2.2
          obtain ⟨b2, off2, rfl, hb2, hcs⟩ := hsl (by intro h; simp [vints] at h; rw [h] at h3; simp at h3)
          have HWA := hide (fun (v : Int) => (show ∃ (i : Nat) (u : Int), within v 0 ((W.length : Int) - 1) = (i : Int) ∧ i < W.length ∧ (∀ o, (wr.alloc o).cell? ⟨b2, off2 + i, none⟩ = some (.int .i64 u)) from by
            obtain ⟨h1, h2⟩ := L0.out v
            obtain ⟨i, hi⟩ := Int.eq_ofNat_of_zero_le h1
            have hil : i < W.length := by omega
            exact ⟨i, W[i], hi, hil, fun o => ((below_new wr o).cell hb2).trans (hcs i (.int .i64 W[i]) (by simp [vints, hil]))⟩))
          obtain ⟨i1, u1, e1, l1, c1⟩ := HWA.out p1
          obtain ⟨i2, u2, e2, l2, c2⟩ := HWA.out p2
          obtain ⟨i3, u3, e3, l3, c3⟩ := HWA.out p3
          have V1 := hide (W1.out p1)
          have V2 := hide (W1.out p2)
          have V3 := hide (W1.out p3)
          rw [e1] at V1
          rw [e2] at V2
          rw [e3] at V3
          clear e1 e2 e3 W1 L0 HWA hb2 hcs
          clear x0 x1 x2 x3 x4 hb hb' HF
          have q1 := within_lo p0 0 3 (by omega)
          have q2 := within_hi p0 0 3 (by omega)
          generalize within p0 0 3 = q at W0 q1 q2
          go_wp2_with fail
          refine (W0.out _).mono ?_
          rintro e w' ⟨rfl, rfl⟩
          go_wp2
          refine wp_loop_rounds 4 ?_
          rw [rounds_succ]
          go_wp2_with fail
          refine (V1.out _).mono ?_
          rintro e w' ⟨rfl, rfl⟩
          go_wp2
          rw [rounds_succ]
          go_wp2_with fail
          refine (V2.out _).mono ?_
          rintro e w' ⟨rfl, rfl⟩
          go_wp2
          rw [rounds_succ]
          go_wp2_with fail
          refine (V3.out _).mono ?_
          rintro e w' ⟨rfl, rfl⟩
          go_wp2
          rw [rounds_succ]
          go_wp2_with fail
          have HW2 := hide (HW.out.on (below_new wr (.cells #[.int .i64 q, .int .i64 u1, .int .i64 u2, .int .i64 u3] 57)))
          have HM := hide (red_make HW.out.red (by omega) (q, u1, u2, u3) (by simp only; omega))
          refine (own_kept q u1 u2 u3 HW2.out.own).mono ?_
          rintro e w3 ⟨rfl, ho, hkp⟩
          have HW3 := hide (HW2.out.make (by omega) (q, u1, u2, u3) (by simp only; omega) ho hkp)
          clear ho hkp HW2 HW V1 V2 V3 W0 c1 c2 c3 y0 y1 y2 y3 j0
          generalize makeP 60 L (q, u1, u2, u3) = r at *
          obtain ⟨r0, r1, L'⟩ := r
          obtain ⟨_, hge, hle, hans⟩ := HM.out
          clear HM
          simp only at hge hle hans HW3
          rcases hans with ⟨h0, hway⟩ | h0
          · subst h0
            have HY := hide hway
            obtain ⟨i0, hi0, hz0, hz1, hz2⟩ := info_parts infoInt
            have Hi := hide hi0
            have Hz0 := hide hz0
            have Hz1 := hide hz1
            have Hz2 := hide hz2
            have HSL : Hid (Sl (w3.alloc (.cells #[.int .i64 r0] 3)) (w3.heap.size + 1) (some ⟨w3.heap.size, 0, none⟩) [.int .i64 r0]) := hide (Sl.laid w3 _ _ _ _ rfl)
            have HONE : Hid (∀ u ∈ [Value.int .i64 r0], u.oneCell' = true) := hide (by intro u hu; simp at hu; subst hu; rfl)
            have HQ1 : Hid (W.length + 1 ≤ maxLen) := hide (by unfold maxLen; omega)
            have HQ2 : Hid ((W.length + 1) * 8 ≤ 140737488355328) := hide (by omega)
            have HW4 := hide (HW3.out.on (below_new w3 (.cells #[.int .i64 r0] 3)))
            have HQ3 : Hid (w.heap.size ≤ (w3.alloc (.cells #[.int .i64 r0] 3)).heap.size) := hide HW4.out.own.2.size
            clear hway hi0 hz0 hz1 hz2 HW3
            go_wp2_with (at_builtin; refine wpList_app _ rfl (.tmp 75) (.tmp 77) 60 rfl w.heap.size 3 i0 (.int .i64 0) 1 8 Try.underlying60 Hi.out Hz0.out Hz1.out Hz2.out rfl (by decide) (.slice (some ⟨b2, off2, none⟩) W.length c) W.length (vints .i64 W) rfl HW4.out.row (w3.heap.size + 1) (some ⟨w3.heap.size, 0, none⟩) 1 1 [.int .i64 r0] rfl rfl HSL.out HONE.out HQ1.out HQ2.out HQ3.out ?_; intro v7 w7 hown7 hg7 hat7; have HW7 := hide (HW4.out.app HY.out hown7 hg7); clear hown7 hg7 hat7)
            go_roundw
            case rel => exact ⟨k + 1, L', W ++ [r0], h24, by go_num, by omega, by simp; omega, by simp; omega, HW7.out⟩
            case measure => simp [intOf]; omega
          · subst h0
            go_wp2
            go_roundw
            case rel => exact ⟨k + 1, L', W, h24, by go_num, by omega, h3, by omega, HW3.out⟩
            case measure => simp [intOf]; omega
        · go_wp2
          go_meet
          exact ⟨L, W, by omega, by omega, HW.out⟩
      · go_wp2
        go_meet
        exact ⟨L, W, by omega, by omega, HW.out⟩
  case rest =>
    clear H1 HST HS0
    obtain ⟨wm, hwm⟩ : ∃ wm, wm = wc := ⟨_, rfl⟩
    subst hwm
    obtain ⟨L, W, hL, hW, hww⟩ := hcut
    obtain ⟨A, c, hv, hnc, hsl, _⟩ := own_slice hww.row
    subst hv
    have HW := hide hww
    have HSL := hide hsl
    clear hww hsl
    go_upto_block 4 with (fail)
    go_cut [11, 13, 14, 15] from 81 to 112 (fun v _ _ _ wx => ∃ E, Ends wm v E L W W.length wx)
    case first =>
      go_wp2
      go_loopw [11, 83] (fun v i wr => ∃ (k : Nat) (E : List Value), k ≤ W.length ∧ i = .int .i64 k ∧ Ends wm v E L W k wr) (fun _ i _ => W.length - (intOf i).toNat)
      case atStart => exact ⟨0, [], by omega, rfl, World.ownsRow_nil _ _ _ _, RowsI.nil _ _ _ _, Below.refl _ _⟩
      case round =>
        obtain ⟨k, E, hk, rfl, he⟩ := hrel
        have HE := hide he
        clear he
        by_cases hlt : k < W.length
        · obtain ⟨b, off, rfl, hb, hc⟩ := HSL.out.at (i := k) (x := .int .i64 W[k]) (by simp [vints, hlt])
          have hc' : wr.cell? ⟨b, off + k, none⟩ = some (.int .i64 W[k]) := (HE.out.below.cell hb).trans hc
          have hWk : W[k]? = some W[k] := List.getElem?_eq_getElem hlt
          have hway := HW.out.way W[k] (List.getElem_mem hlt)
          have HWK := hide hWk
          have hu : -9223372036854775808 ≤ W[k] := by omega
          generalize W[k] = u at *
          have hk1 : IntKind.i64.wrap ((k : Int) + 1) = (k : Int) + 1 := IntWalk.i64_in _ (by omega)
          have HO := hide (own_on HW.out.own HE.out.below)
          have HG := hide HW.out.red.good
          obtain ⟨wo, hwo⟩ : ∃ wo, wo = wr := ⟨_, rfl⟩
          subst hwo
          clear hc hb hway hWk
          go_wp2
          go_loopw [14, 15] (fun v i wx => ∃ j : Nat, j ≤ 81 ∧ i = .int .i64 j ∧ wx.ownsRow wo.heap.size 3 1 v j (vints .i64 (endsK L u j)) ∧ Below wo.heap.size wo wx) (fun _ i _ => 81 - (intOf i).toNat)
          case atStart => exact ⟨0, by omega, rfl, World.ownsRow_nil _ _ _ _, Below.refl _ _⟩
          case round =>
            clear hc'
            obtain ⟨j, hj, rfl, hrow, hbel⟩ := hrel
            have HB := hide hbel
            have HR := hide hrow
            clear hbel hrow
            by_cases h81 : j < 81
            · obtain ⟨r1, h1⟩ : ∃ r, r = j % 3 := ⟨_, rfl⟩
              obtain ⟨d3, h2⟩ : ∃ r, r = j / 3 := ⟨_, rfl⟩
              obtain ⟨r2, h4⟩ : ∃ r, r = d3 % 3 := ⟨_, rfl⟩
              obtain ⟨d9, h5⟩ : ∃ r, r = j / 9 := ⟨_, rfl⟩
              obtain ⟨r3, h6⟩ : ∃ r, r = d9 % 3 := ⟨_, rfl⟩
              obtain ⟨d27, h7⟩ : ∃ r, r = j / 27 := ⟨_, rfl⟩
              have HA : Hid (ans4 j = [(r1 : Int), (r2 : Int), (r3 : Int), (d27 : Int)]) := hide (by unfold ans4; rw [h1, h4, h2, h6, h5, h7])
              have m1 : (j : Int).tmod 3 = (r1 : Int) := by rw [h1]; exact (Int.ofNat_tmod j 3).symm
              have m2 : (j : Int).tdiv 3 = (d3 : Int) := by rw [h2]; exact (Int.ofNat_tdiv j 3).symm
              have m3 : (d3 : Int).tmod 3 = (r2 : Int) := by rw [h4]; exact (Int.ofNat_tmod d3 3).symm
              have m4 : (j : Int).tdiv 9 = (d9 : Int) := by rw [h5]; exact (Int.ofNat_tdiv j 9).symm
              have m5 : (d9 : Int).tmod 3 = (r3 : Int) := by rw [h6]; exact (Int.ofNat_tmod d9 3).symm
              have m6 : (j : Int).tdiv 27 = (d27 : Int) := by rw [h7]; exact (Int.ofNat_tdiv j 27).symm
              have k3 : IntKind.i64.wrap (d3 : Int) = (d3 : Int) := IntWalk.i64_in _ (by omega)
              have k9 : IntKind.i64.wrap (d9 : Int) = (d9 : Int) := IntWalk.i64_in _ (by omega)
              have k27 : IntKind.i64.wrap (d27 : Int) = (d27 : Int) := IntWalk.i64_in _ (by omega)
              have kj : IntKind.i64.wrap ((j : Int) + 1) = (j : Int) + 1 := IntWalk.i64_in _ (by omega)
              clear h1 h2 h4 h5 h6 h7
              have HSR := hide (endsK_succ L u j)
              rw [HA.out] at HSR
              have HB2 := hide (below_on HB.out (below_new wr (.cells #[.int .i64 (r1 : Int), .int .i64 (r2 : Int), .int .i64 (r3 : Int), .int .i64 (d27 : Int)] 3)))
              have HR2 := hide (own_below_keep HR.out (below_new wr (.cells #[.int .i64 (r1 : Int), .int .i64 (r2 : Int), .int .i64 (r3 : Int), .int .i64 (d27 : Int)] 3)))
              have HSA : Hid (Sl (wr.alloc (.cells #[.int .i64 (r1 : Int), .int .i64 (r2 : Int), .int .i64 (r3 : Int), .int .i64 (d27 : Int)] 3)) (wr.heap.size + 1) (some ⟨wr.heap.size, 0, none⟩) (vints .i64 [(r1 : Int), (r2 : Int), (r3 : Int), (d27 : Int)])) := hide (Sl.laid wr _ _ _ _ rfl)
              clear HB HR HA
              go_wp2_with fail
              refine (walk_any _ g 60 L (some ⟨wr.heap.size, 0, none⟩) 4 4 [(r1 : Int), (r2 : Int), (r3 : Int), (d27 : Int)] rfl u _ (wr.heap.size + 1) hu HG.out (own_on HO.out HB2.out).1 HSA.out).mono ?_
              rintro e w4 ⟨rfl, hd⟩
              have HR3 := hide (own_drawn HR2.out hd)
              have HB3 := hide (below_drawn HB2.out hd)
              clear hd HR2 HB2 HSA
              generalize walkP L [(r1 : Int), (r2 : Int), (r3 : Int), (d27 : Int)] u = x at *
              obtain ⟨i0, hi0, hz0, hz1, hz2⟩ := info_parts infoInt
              have Hi := hide hi0
              have Hz0 := hide hz0
              have Hz1 := hide hz1
              have Hz2 := hide hz2
              have HSX : Hid (Sl (w4.alloc (.cells #[.int .i64 x] 3)) (w4.heap.size + 1) (some ⟨w4.heap.size, 0, none⟩) [.int .i64 x]) := hide (Sl.laid w4 _ _ _ _ rfl)
              have HONE : Hid (∀ u ∈ [Value.int .i64 x], u.oneCell' = true) := hide (by intro u hu; simp at hu; subst hu; rfl)
              have HQ1 : Hid (j + 1 ≤ maxLen) := hide (by unfold maxLen; omega)
              have HQ2 : Hid ((j + 1) * 8 ≤ 140737488355328) := hide (by omega)
              have HR4 := hide (own_below_keep HR3.out (below_new w4 (.cells #[.int .i64 x] 3)))
              have HB4 := hide (below_on HB3.out (below_new w4 (.cells #[.int .i64 x] 3)))
              have HQ3 : Hid (wo.heap.size ≤ (w4.alloc (.cells #[.int .i64 x] 3)).heap.size) := hide HB4.out.size
              clear hi0 hz0 hz1 hz2 HR3 HB3
              go_wp2_with (at_builtin; refine wpList_app _ rfl (.tmp 91) (.tmp 106) 60 rfl wo.heap.size 3 i0 (.int .i64 0) 1 8 Try.underlying60 Hi.out Hz0.out Hz1.out Hz2.out rfl (by decide) _ j (vints .i64 (endsK L u j)) rfl HR4.out (w4.heap.size + 1) (some ⟨w4.heap.size, 0, none⟩) 1 1 [.int .i64 x] rfl rfl HSX.out HONE.out HQ1.out HQ2.out HQ3.out ?_; intro v7 w7 hown7 hg7 hat7; have HR7 := hide hown7; have HB7 := hide (own_below HR4.out HB4.out hg7 (Nat.le_refl _) HB4.out.size); clear hown7 hg7 hat7)
              go_roundw
              case rel => exact ⟨j + 1, by omega, by go_num, by rw [HSR.out, show vints .i64 (endsK L u j ++ [x]) = vints .i64 (endsK L u j) ++ [.int .i64 x] by simp [vints]]; exact HR7.out, HB7.out⟩
              case measure => simp [intOf]; omega
            · obtain rfl : j = 81 := by omega
              obtain ⟨A2, c2, hv2, _⟩ := own_slice HR.out
              subst hv2
              obtain ⟨i0, hi0, hz0, hz1, hz2⟩ := info_parts infoInts
              have Hi := hide hi0
              have Hz0 := hide hz0
              have Hz1 := hide hz1
              have Hz2 := hide hz2
              have HSX : Hid (Sl (wr.alloc (.cells #[.slice A2 81 c2] 60)) (wr.heap.size + 1) (some ⟨wr.heap.size, 0, none⟩) [.slice A2 81 c2]) := hide (Sl.laid wr _ _ _ _ rfl)
              have HONE : Hid (∀ u ∈ [Value.slice A2 81 c2], u.oneCell' = true) := hide (by intro u hu; simp at hu; subst hu; rfl)
              have HQ1 : Hid (k + 1 ≤ maxLen) := hide (by unfold maxLen; omega)
              have HQ2 : Hid ((k + 1) * 24 ≤ 140737488355328) := hide (by omega)
              have HE4 := hide (HE.out.on (below_on HB.out (below_new wr (.cells #[.slice A2 81 c2] 60))))
              have HR4 := hide (own_base (own_below_keep HR.out (below_new wr (.cells #[.slice A2 81 c2] 60))) HE.out.below.size)
              have HQ3 : Hid (wm.heap.size ≤ (wr.alloc (.cells #[.slice A2 81 c2] 60)).heap.size) := hide HE4.out.below.size
              clear hi0 hz0 hz1 hz2 HB HR HE
              go_wp2_with (at_builtin; refine wpList_app _ rfl (.tmp 108) (.tmp 110) 75 rfl wm.heap.size 60 i0 (.slice none 0 0) 1 24 Try.underlying75 Hi.out Hz0.out Hz1.out Hz2.out rfl (by decide) _ k E rfl HE4.out.row (wr.heap.size + 1) (some ⟨wr.heap.size, 0, none⟩) 1 1 [.slice A2 81 c2] rfl rfl HSX.out HONE.out HQ1.out HQ2.out HQ3.out ?_; intro v7 w7 hown7 hg7 hat7; have HE7 := hide (HE4.out.app HWK.out HR4.out hown7 hg7); clear hown7 hg7 hat7)
              go_roundw
              case rel => exact ⟨k + 1, E ++ [.slice A2 81 c2], by omega, by go_num, HE7.out⟩
              case measure => simp [intOf]; omega
        · obtain rfl : k = W.length := by omega
          go_wp2
          go_meet
          exact ⟨E, HE.out⟩
    case rest =>
      obtain ⟨E, he⟩ := hcut
      obtain ⟨wz, hwz⟩ : ∃ wz, wz = wc := ⟨_, rfl⟩
      subst hwz
      have HE := hide he
      have HO := hide (own_on HW.out.own he.below)
      clear he
      go_wp2
      go_loopw [115] (fun i wr => ∃ k : Nat, k ≤ W.length ∧ i = .int .i64 k ∧ Below wz.heap.size wz wr) (fun i _ => W.length - (intOf i).toNat)
      case atStart => exact ⟨0, by omega, rfl, Below.refl _ _⟩
      case round =>
        obtain ⟨k, hk, rfl, hbel⟩ := hrel
        have HB := hide hbel
        clear hbel
        by_cases hlt : k < W.length
        · have kk : IntKind.i64.wrap ((k : Int) + 1) = (k : Int) + 1 := IntWalk.i64_in _ (by omega)
          go_wp2
          go_loopw [17] (fun i wx => ∃ j : Nat, j ≤ k ∧ i = .int .i64 j ∧ Below wz.heap.size wz wx) (fun i _ => k - (intOf i).toNat)
          case atStart => exact ⟨0, by omega, rfl, HB.out⟩
          case round =>
            clear HB
            obtain ⟨j, hj, rfl, hbel⟩ := hrel
            have HB := hide hbel
            clear hbel
            by_cases hjk : j < k
            · have hjl : j < W.length := by omega
              have kj : IntKind.i64.wrap ((j : Int) + 1) = (j : Int) + 1 := IntWalk.i64_in _ (by omega)
              have hWk : W[k]? = some W[k] := List.getElem?_eq_getElem hlt
              have hWj : W[j]? = some W[j] := List.getElem?_eq_getElem hjl
              have wk := HW.out.way W[k] (List.getElem_mem hlt)
              have wj := HW.out.way W[j] (List.getElem_mem hjl)
              obtain ⟨b, off, rfl, hb, hcs⟩ := HSL.out (by intro h; simp [vints] at h; rw [h] at hlt; simp at hlt)
              have hck := hcs k (.int .i64 W[k]) (by simp [vints, hlt])
              have hcj := hcs j (.int .i64 W[j]) (by simp [vints, hjl])
              have hiff := ends_iff HW.out.red wk.1 wj.1 wk.2 wj.2
              obtain ⟨b2, off2, A1, c1, A2, c2, cE, hv2, hb2, z1, z2, s1, s2⟩ := HE.out.two hlt hWk hjl hWj
              subst hv2
              generalize W[k] = u at *
              generalize W[j] = v at *
              have hbz := Nat.lt_of_lt_of_le hb HE.out.below.size
              have p1 : ∀ p : In (Aft wr), p.w.cell? ⟨b, off + k, none⟩ = some (.int .i64 u) := fun p => ((below_on HE.out.below (below_on HB.out p.h)).cell hb).trans hck
              have p2 : ∀ p : In (Aft wr), p.w.cell? ⟨b, off + j, none⟩ = some (.int .i64 v) := fun p => ((below_on HE.out.below (below_on HB.out p.h)).cell hb).trans hcj
              have p3 : ∀ p : In (Aft wr), p.w.cell? ⟨b2, off2 + k, none⟩ = some (.slice A1 81 c1) := fun p => ((below_on HB.out p.h).cell hb2).trans z1
              have p4 : ∀ p : In (Aft wr), p.w.cell? ⟨b2, off2 + j, none⟩ = some (.slice A2 81 c2) := fun p => ((below_on HB.out p.h).cell hb2).trans z2
              have l1 := endsK_len L u 81
              have l2 := endsK_len L v 81
              generalize endsK L u 81 = lu at *
              generalize endsK L v 81 = lv at *
              have HX := hide (fun w' (hb : Below wr.heap.size wr w') => (same_int A1 A2 c1 c2 81 81 lu lv l1 l2 w' w'.heap.size (by omega) (by omega) (sl_on s1 (below_on HB.out hb)) (sl_on s2 (below_on HB.out hb))).mono fun e w'' h => (⟨h.1, below_drawn hb h.2⟩ : _ ∧ Below wr.heap.size wr w''))
              clear hWk hWj wk wj hb hcs hck hcj hb2 z1 z2 s1 s2 hbz l1 l2
              by_cases hu : u = v
              · have e1 : (u == v) = true := beq_iff_eq.2 hu
                have e2 : sameB lu lv = true := (sameB_iff lu lv).2 (hiff.2 hu)
                rw [e2] at HX
                clear hu hiff e2
                go_wp2
                refine wp_region_in (C := Aft wr) (by kernel_rfl) (by kernel_rfl) (aft_drew wr) ?_
                repeat (go_big_quiet_step (exact in_call fun w' hb => HX.out w' hb))
                refine wpQuiet_nil ?_
                intro w2 hb2
                have HB2 := hide (below_on HB.out hb2)
                clear hb2
                go_wp2
                go_roundw
                case rel => exact ⟨j + 1, by omega, by go_num, HB2.out⟩
                case measure => simp [intOf]; omega
              · have e1 : (u == v) = false := beq_eq_false_iff_ne.2 hu
                have e2 : sameB lu lv = false := by
                  rw [Bool.eq_false_iff]
                  exact fun h => hu (hiff.1 ((sameB_iff lu lv).1 h))
                rw [e2] at HX
                clear hu hiff e2
                go_wp2
                refine wp_region_in (C := Aft wr) (by kernel_rfl) (by kernel_rfl) (aft_drew wr) ?_
                repeat (go_big_quiet_step (exact in_call fun w' hb => HX.out w' hb))
                refine wpQuiet_nil ?_
                intro w2 hb2
                have HB2 := hide (below_on HB.out hb2)
                clear hb2
                go_wp2
                go_roundw
                case rel => exact ⟨j + 1, by omega, by go_num, HB2.out⟩
                case measure => simp [intOf]; omega
            · obtain rfl : j = k := by omega
              go_wp2
              go_roundw
              case rel => exact ⟨j + 1, by omega, by go_num, HB.out⟩
              case measure => simp [intOf]; omega
        · go_wp2_with fail
          refine (dagRuns_walk wr).mono ?_
          rintro e w7 ⟨rfl, hb⟩
          have HB7 := hide (below_on (below_on HO.out.2 HB.out) hb)
          clear hb
          go_wp2
          go_ret
          exact ⟨rfl, hg ▸ HB7.out⟩
end Go.Proofs.Ytinlnfhicnejmaa
