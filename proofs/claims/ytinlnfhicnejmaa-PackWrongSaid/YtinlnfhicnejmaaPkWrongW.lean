/-
  THE WALK OF bailifflaw1.PackWrong: it returns true; only new memory is laid.
-/
import Derived.Test.YtinlnfhicnejmaaPkWrongP
namespace Go.Proofs.Ytinlnfhicnejmaa
open Go.RowKit
set_option linter.unusedVariables false

set_option maxHeartbeats 1000000 in
theorem packWrong_walk (a0 : Option Addr) (cap0 : Nat) (l0 : List UInt8) (a1 : Option Addr) (cap1 : Nat) (l1 : List (Value × Value × Value)) (w : World) (hl0 : l0.length ≤ cap0) (hm0 : cap0 ≤ maxLen) (s0 : Sl w w.heap.size a0 (vbytes l0)) (hl1 : l1.length ≤ cap1) (hm1 : cap1 ≤ maxLen) (s1 : Sl w w.heap.size a1 (cells3 l1)) (q1 : ∀ x ∈ l1, ∃ k a b : Int, x = (.int .i64 k, .int .i64 a, .int .i64 b)) :
    Calls Try.prog 8 #[.slice a0 l0.length cap0, .slice a1 l1.length cap1] w fun e w' => e = .returned (.bool true) ∧ Below w.heap.size w w' := by
  unfold maxLen at hm0 hm1
  have m1 := less_60 l0.length Try.prog
  have k1 : min l0.length 60 ≤ l0.length := Nat.min_le_left _ _
  have k1' : min l0.length 60 ≤ 60 := Nat.min_le_right _ _
  have hsl := s0.takeBytes (min l0.length 60)
  have hln : (l0.take (min l0.length 60)).length = min l0.length 60 := take_len _ _ k1
  generalize min l0.length 60 = c0 at *
  generalize l0.take c0 = l at *
  have LN := hide hln
  have HSL := hide hsl
  have HS1 := hide s1
  have HQ1 := hide q1
  have i1 : (0 : Int) ≤ (c0 : Int) := by omega
  have i2 : (c0 : Int) ≤ (cap0 : Int) := by omega
  have hc0 : c0 ≤ cap0 := by omega
  clear s0 hsl s1 q1 hl0 hm0 hln
  go_enter Try.func8, Try.ntmps8
  go_wp2_with (first
    | (at_builtin; refine wpList_fresh (w0 := w) rfl (.tmp 14) (.tmp 15) rfl rfl a0 c0 cap0 l rfl LN.out HSL.out (by omega) ?_; intro v2 w2 hown2 hb2; have HO2 := hide (hown2.alloc (.cells (vbytes [128]).toArray 5)); have HB2 := hide (below_on hb2 (below_new w2 (.cells (vbytes [128]).toArray 5))))
    | (at_builtin; refine wpList_more rfl (.tmp 16) (.tmp 17) rfl w.heap.size v2 c0 l rfl HO2.out (by omega) HB2.out.size (some ⟨w2.heap.size, 0, none⟩) 1 1 [128] rfl rfl (new_sl w2 [128]) (by decide) ?_; intro v3 w3 hown3 hb3))
  obtain ⟨A3, c3, rfl, hc3, hsl3⟩ := own_sl hown3
  have HB3 := hide (HB2.out.trans (hb3.mono (Nat.le_refl _)))
  have HLL : Hid ((l ++ [128]).length = c0 + 1) := hide (by rw [List.length_append, LN.out]; rfl)
  have HSL3 := hide hsl3
  clear hown3 hb3 hsl3 HB2 HO2 hown2 hb2 HSL
  refine (read_any A3 c3 (c0 + 1) (l ++ [128]) HLL.out w3 (by rw [HLL.out]; omega) HSL3.out).mono ?_
  rintro e w4 ⟨g, rfl, hr, hg, hb4⟩
  have HB4 := hide (below_on HB3.out hb4)
  have HG : Hid (w.heap.size ≤ g) := hide (Nat.le_trans HB3.out.size hg)
  have HR := hide hr
  clear hr hg hb4 HB3 HSL3
  go_wp2
  go_loopw [6] (fun i wr => WrongRel w g l i wr) (fun i _ => l.length + 1 - (intOf i).toNat)
  case atStart => exact ⟨0, 0, false, _, rfl, by omega, HB4.out, HG.out, HR.out, .inr ⟨by omega, by omega⟩⟩
  case round =>
    clear HB4 HR HG
    obtain ⟨k, at_, bad, lo, rfl, hk, hbel, hgw, hrd, hor⟩ := hrel
    have HBEL := hide hbel
    have HRD := hide hrd
    have HGW := hide hgw
    rw [LN.out] at hk hor
    clear hbel hrd hgw
    rcases bad with _ | _
    · have g12 : k ≤ at_ ∧ at_ ≤ c0 := by
        rcases hor with h | h
        · cases h
        · exact h
      obtain ⟨g1, g2⟩ := g12
      have hle : k ≤ c0 := by omega
      have hle1 : (k : Int) ≤ (c0 : Int) := by omega
      have hk1 : IntKind.i64.wrap ((k : Int) + 1) = (k : Int) + 1 := IntWalk.i64_in _ (by omega)
      clear hor
      go_wp2_with fail
      refine (wrong_any lo g _ at_ false wr HRD.out).mono ?_
      rintro e w5 ⟨rfl, rfl⟩
      rw [show wrongN false = 0 from rfl]
      go_wp2_with fail
      refine (rnum_any lo g _ at_ false wr HRD.out).mono ?_
      rcases inAt_cases (l ++ [128]) at_ false (-9223372036854775808) 9223372036854775807 (by rw [HLL.out]; omega) with hc | ⟨n, sz, -, hc, hn, -, -, hs1, hs2⟩
      · rw [hc]
        rintro e w6 ⟨rfl, hr, hgr⟩
        have HB6 := hide (HBEL.out.grown hgr HBEL.out.size (fun j hj => by injection hj with hj; subst hj; exact HGW.out))
        have HR6 := hide hr
        clear hr hgr hc
        go_wp2
        go_roundw
        case rel => exact ⟨k + 1, at_, true, lo, by go_num, by rw [LN.out]; omega, HB6.out, HGW.out, HR6.out, .inl rfl⟩
        case measure => simp [intOf]; rw [LN.out]; omega
      · rw [hc]
        have hs3 := numAt_not_last hn (by rw [HLL.out] at hs2; rw [LN.out]; omega)
        rw [LN.out] at hs3
        rintro e w6 ⟨rfl, hr, hgr⟩
        have HB6 := hide (HBEL.out.grown hgr HBEL.out.size (fun j hj => by injection hj with hj; subst hj; exact HGW.out))
        have HR6 := hide hr
        have HAT : Hid (k + 1 ≤ at_ + sz ∧ at_ + sz ≤ c0) := hide ⟨by omega, hs3⟩
        clear hr hgr hc hn hs2 hs3
        go_wp2
        go_roundw
        case rel => exact ⟨k + 1, at_ + sz, false, lo, by go_num, by rw [LN.out]; omega, HB6.out, HGW.out, HR6.out, .inr (by rw [LN.out]; exact HAT.out)⟩
        case measure => simp [intOf]; rw [LN.out]; omega
    · by_cases hle : k ≤ c0
      · have hle1 : (k : Int) ≤ (c0 : Int) := by omega
        go_wp2_with fail
        refine (wrong_any lo g _ at_ true wr HRD.out).mono ?_
        rintro e w5 ⟨rfl, rfl⟩
        rw [show wrongN true = 7 from rfl]
        go_wp2_with fail
        have WR : Hid (WrongAt w g (l ++ [128]) at_ wr) := hide ⟨HBEL.out, HGW.out, lo, HRD.out⟩
        clear HBEL HGW HRD HLL LN hor m1
        generalize l ++ [128] = L at *
        refine (wrong_at w g at_ L wr WR.out).mono ?_
        rintro e w5 ⟨rfl, hw⟩
        have W5 := hide hw
        clear hw
        go_wp2_with fail
        refine (wrong_wrong w g at_ L w5 W5.out).mono ?_
        rintro e w6 ⟨rfl, hw⟩
        have W6 := hide hw
        clear hw
        go_wp2
        go_loopw [8] (fun i wr => ∃ k : Nat, i = .int .i64 k ∧ k ≤ l1.length ∧ k ≤ 20 ∧ WrongAt w g L at_ wr) (fun i _ => 20 - (intOf i).toNat)
        case atStart => exact ⟨0, rfl, by omega, by omega, W6.out⟩
        case round =>
          clear W5 W6 WR
          obtain ⟨j, rfl, hj, hj20, hw⟩ := hrel
          have W := hide hw
          clear hw
          by_cases hlt : j < l1.length
          · by_cases h20 : j < 20
            · obtain ⟨b, off, rfl, hb, c1, c2, c3⟩ := HS1.out.triple hlt
              obtain ⟨x0, x1, x2, hx⟩ := HQ1.out _ (List.getElem_mem hlt)
              rw [hx] at c1 c2 c3
              have e1 : ∀ p : In (WrongAt w g L at_), p.w.cell? ⟨b, off + j * 3 + 1, none⟩ = some (.int .i64 x1) := fun p => (p.h.1.cell hb).trans c2
              have e2 : ∀ p : In (WrongAt w g L at_), p.w.cell? ⟨b, off + j * 3 + 2, none⟩ = some (.int .i64 x2) := fun p => (p.h.1.cell hb).trans c3
              have hk1 : IntKind.i64.wrap ((j : Int) + 1) = (j : Int) + 1 := IntWalk.i64_in _ (by omega)
              haveI : Nonempty (In (WrongAt w g L at_)) := ⟨⟨_, W.out⟩⟩
              clear c1 c2 c3 hx hb HS1 HQ1
              go_wp2
              refine wp_region_in (C := WrongAt w g L at_) (by kernel_rfl) (by kernel_rfl) (wrongAt_drawn W.out ⟨1, rfl⟩) ?_
              repeat (go_big_quiet_step ((first
                | (go_at_call 17; exact in_call (wrong_num w g at_ L))
                | (go_at_call 30; exact in_call (wrong_in w g at_ L x1 x2))
                | (go_at_call 16; exact in_call (wrong_text w g at_ L x1))
                | (go_at_call 22; exact in_call (wrong_at w g at_ L))
                | (go_at_call 21; exact in_call (wrong_wrong w g at_ L))
                | (go_at_call 29; exact in_call (wrong_end w g at_ L)))))
              refine wpQuiet_nil ?_
              intro w8 hw8
              have W8 := hide hw8
              clear hw8
              go_wp2
              go_roundw
              case rel => exact ⟨j + 1, by go_num, hlt, h20, W8.out⟩
              case measure => simp [intOf]; omega
            · clear HS1 HQ1
              go_wp2_with fail
              refine (packRuns_walk wr).mono ?_
              rintro e w9 ⟨rfl, hb9⟩
              have HB9 := hide (below_on W.out.1 hb9)
              clear hb9
              go_wp2
              go_ret
              exact ⟨rfl, HB9.out⟩
          · clear HS1 HQ1
            go_wp2_with fail
            refine (packRuns_walk wr).mono ?_
            rintro e w9 ⟨rfl, hb9⟩
            have HB9 := hide (below_on W.out.1 hb9)
            clear hb9
            go_wp2
            go_ret
            exact ⟨rfl, HB9.out⟩
      · go_wp2_with fail
        have WR : Hid (WrongAt w g (l ++ [128]) at_ wr) := hide ⟨HBEL.out, HGW.out, lo, HRD.out⟩
        clear HBEL HGW HRD HLL LN hor m1
        generalize l ++ [128] = L at *
        refine (wrong_at w g at_ L wr WR.out).mono ?_
        rintro e w5 ⟨rfl, hw⟩
        have W5 := hide hw
        clear hw
        go_wp2_with fail
        refine (wrong_wrong w g at_ L w5 W5.out).mono ?_
        rintro e w6 ⟨rfl, hw⟩
        have W6 := hide hw
        clear hw
        go_wp2
        go_loopw [8] (fun i wr => ∃ k : Nat, i = .int .i64 k ∧ k ≤ l1.length ∧ k ≤ 20 ∧ WrongAt w g L at_ wr) (fun i _ => 20 - (intOf i).toNat)
        case atStart => exact ⟨0, rfl, by omega, by omega, W6.out⟩
        case round =>
          clear W5 W6 WR
          obtain ⟨j, rfl, hj, hj20, hw⟩ := hrel
          have W := hide hw
          clear hw
          by_cases hlt : j < l1.length
          · by_cases h20 : j < 20
            · obtain ⟨b, off, rfl, hb, c1, c2, c3⟩ := HS1.out.triple hlt
              obtain ⟨x0, x1, x2, hx⟩ := HQ1.out _ (List.getElem_mem hlt)
              rw [hx] at c1 c2 c3
              have e1 : ∀ p : In (WrongAt w g L at_), p.w.cell? ⟨b, off + j * 3 + 1, none⟩ = some (.int .i64 x1) := fun p => (p.h.1.cell hb).trans c2
              have e2 : ∀ p : In (WrongAt w g L at_), p.w.cell? ⟨b, off + j * 3 + 2, none⟩ = some (.int .i64 x2) := fun p => (p.h.1.cell hb).trans c3
              have hk1 : IntKind.i64.wrap ((j : Int) + 1) = (j : Int) + 1 := IntWalk.i64_in _ (by omega)
              haveI : Nonempty (In (WrongAt w g L at_)) := ⟨⟨_, W.out⟩⟩
              clear c1 c2 c3 hx hb HS1 HQ1
              go_wp2
              refine wp_region_in (C := WrongAt w g L at_) (by kernel_rfl) (by kernel_rfl) (wrongAt_drawn W.out ⟨1, rfl⟩) ?_
              repeat (go_big_quiet_step ((first
                | (go_at_call 17; exact in_call (wrong_num w g at_ L))
                | (go_at_call 30; exact in_call (wrong_in w g at_ L x1 x2))
                | (go_at_call 16; exact in_call (wrong_text w g at_ L x1))
                | (go_at_call 22; exact in_call (wrong_at w g at_ L))
                | (go_at_call 21; exact in_call (wrong_wrong w g at_ L))
                | (go_at_call 29; exact in_call (wrong_end w g at_ L)))))
              refine wpQuiet_nil ?_
              intro w8 hw8
              have W8 := hide hw8
              clear hw8
              go_wp2
              go_roundw
              case rel => exact ⟨j + 1, by go_num, hlt, h20, W8.out⟩
              case measure => simp [intOf]; omega
            · clear HS1 HQ1
              go_wp2_with fail
              refine (packRuns_walk wr).mono ?_
              rintro e w9 ⟨rfl, hb9⟩
              have HB9 := hide (below_on W.out.1 hb9)
              clear hb9
              go_wp2
              go_ret
              exact ⟨rfl, HB9.out⟩
          · clear HS1 HQ1
            go_wp2_with fail
            refine (packRuns_walk wr).mono ?_
            rintro e w9 ⟨rfl, hb9⟩
            have HB9 := hide (below_on W.out.1 hb9)
            clear hb9
            go_wp2
            go_ret
            exact ⟨rfl, HB9.out⟩
end Go.Proofs.Ytinlnfhicnejmaa
