/-
  THE WALK OF bailifflaw16.DagBranches: it returns true; only new memory is laid.
-/
import Derived.Test.YtinlnfhicnejmaaDagMade
import Derived.Test.YtinlnfhicnejmaaOpen16
import Derived.Deep.RegionHeld3
import Derived.Deep.Cut
import Derived.Deep.CutRange
import Derived.Deep.CutBlock
import Derived.Deep.DeepCutAuto
namespace Go.Proofs.Ytinlnfhicnejmaa
open Go.RowKit
set_option linter.unusedVariables false

theorem less_nat (p q : Nat) (P : Program) (ts : Array TypeId) (t : TypeId) (w : World) : (Builtin.min_ ts t #[.int .i64 (p : Int), .int .i64 (q : Int)]).run P w = .ok (.int .i64 ((min p q : Nat) : Int)) w := by
  simp [Builtin.min_, Builtin.min2]
  split <;> omega
theorem less_12 (p : Nat) (P : Program) (ts : Array TypeId) (t : TypeId) (w : World) : (Builtin.min_ ts t #[.int .i64 (p : Int), .int .i64 12]).run P w = .ok (.int .i64 ((min p 12 : Nat) : Int)) w := less_nat p 12 P ts t w
/-- A walk goes on by the way of its answer. -/
theorem walkP_step {l : List Br} (hg : Good l) (ans : List Int) {k ka : Nat} {p : Br} (hp : l[k]? = some p) (ha : p.1 = (ka : Int)) : walkP l ans (k : Int) = walkP l ans (toP p (ansP ans ka)) := by
  have hk := (List.getElem?_eq_some_iff.1 hp).1
  have ht := good_to hg hp (ansP ans ka)
  unfold walkP
  rw [if_neg (by omega), if_neg (by omega)]
  have e : walkF l ans (((k : Int) + 2).toNat + 1) (k : Int) = walkF l ans (((k : Int) + 2).toNat) (toP p (ansP ans ka)) := by
    conv => lhs; unfold walkF
    rw [if_neg (by omega), Int.toNat_natCast, hp]
    simp only [ha, Int.toNat_natCast]
  rw [e]
  exact walkF_more hg ans _ _ _ (by omega) (by omega) (by omega) (by omega)
/-- The size of a way, as Size tells it. -/
theorem size_way {w wr : World} {g : Nat} {L : List Br} (root : Int) (hg : Good L) (ho : Own w g 200 L wr) (hr : I64 root) :
    Calls Try.prog 35 #[.pointer (some ⟨g, 0, none⟩), .int .i64 root] wr fun e w' => e = .returned (.int .i64 (sizeP L root : Nat)) ∧ Below wr.heap.size wr w' := by
  obtain ⟨_, _, _, _, _, _, hl, _⟩ := dags_open ho.1
  exact size_any _ g 200 L root (4 * L.length + 2) (sizeP L root) wr (by omega) hr (good_i64 hg (by omega)) (size_spec L root).1 ho.1
/-- Is there an answer to an atom? -/
def InR (w : World) (g : Nat) (a1 : Option Addr) (ans : List Int) (n ka : Nat) (wx : World) (v : Value) (w' : World) : Prop :=
  ∃ E : Bool, v = .bool E ∧ wx = w' ∧ (E = true → ∃ (vv b off : Nat), a1 = some ⟨b, off, none⟩ ∧ b < g ∧ w.cell? ⟨b, off + ka, none⟩ = some (.int .i64 (vv : Nat)) ∧ ka < n ∧ ansP ans ka = vv) ∧ (E = false → ansP ans ka = 1)
/-- Behind so many of the asked branches. -/
def MadeRel (w : World) (g : Nat) (i : Value) (wr : World) : Prop := ∃ (k : Nat) (L : List Br), k ≤ 50 ∧ i = .int .i64 k ∧ Own w g 200 L wr ∧ Good L
set_option maxHeartbeats 4000000 in
set_option maxRecDepth 20000 in
theorem dagBranches_walk (a0 : Option Addr) (cap0 : Nat) (l0 : List A5) (a1 : Option Addr) (cap1 : Nat) (l1 : List Int) (w : World) (hl0 : l0.length ≤ cap0) (hm0 : cap0 ≤ maxLen) (s0 : Sl w w.heap.size a0 (cells5 l0)) (hl1 : l1.length ≤ cap1) (hm1 : cap1 ≤ maxLen) (s1 : Sl w w.heap.size a1 (vints .i64 l1)) :
    Calls Try.prog 13 #[.slice a0 l0.length cap0, .slice a1 l1.length cap1] w fun e w' => e = .returned (.bool true) ∧ Below w.heap.size w w' := by
  unfold maxLen at hm0 hm1
  have m1 := less_12 l1.length Try.prog
  have k1 : min l1.length 12 ≤ l1.length := Nat.min_le_left _ _
  have k1' : min l1.length 12 ≤ 12 := Nat.min_le_right _ _
  have hsl : Sl w w.heap.size a1 (vints .i64 (l1.take (min l1.length 12))) := by
    have h := s1.take (min l1.length 12)
    have e : (vints .i64 l1).take (min l1.length 12) = vints .i64 (l1.take (min l1.length 12)) := by simp [vints, List.map_take]
    rwa [e] at h
  have hln : (l1.take (min l1.length 12)).length = min l1.length 12 := take_len _ _ k1
  generalize min l1.length 12 = n at *
  generalize l1.take n = ans at *
  have i1 : (0 : Int) ≤ (n : Int) := by omega
  have i2 : (n : Int) ≤ (cap1 : Int) := by omega
  have hnc : n ≤ cap1 := by omega
  have HS0 := hide s0
  have HSA := hide hsl
  have HLN := hide hln
  clear s0 s1 hsl hln k1 hl1 hm1
  go_enter Try.func13, Try.ntmps13
  go_wp2_with fail
  refine (new_own 200 (by decide) (by decide) w).mono ?_
  rintro e w1 ⟨rfl, ho⟩
  have H1 := hide ho
  clear ho
  generalize hg : w.heap.size = g at *
  go_upto_block 0 with (fail)
  go_cut [7] from 30 to 48 (fun v w' => ∃ L, Own w g 200 L w' ∧ Good L)
  case first =>
    go_wp2
    go_loopw [7] (fun i wr => MadeRel w g i wr) (fun i _ => 50 - (intOf i).toNat)
    case atStart => exact ⟨0, [], by omega, rfl, H1.out, good_nil⟩
    case round =>
      clear H1 m1
      obtain ⟨k, L, hk, rfl, ho, hgd⟩ := hrel
      have HO := hide ho
      have HGD := hide hgd
      clear ho hgd
      by_cases hlt : k < l0.length
      · by_cases h50 : k < 50
        · obtain ⟨b, off, rfl, hb, x0, x1, x2, x3, x4⟩ := HS0.out.ask5 hlt
          have hb' : b < w.heap.size := hg.symm ▸ hb
          have hk1 : IntKind.i64.wrap ((k : Int) + 1) = (k : Int) + 1 := IntWalk.i64_in _ (by omega)
          have HLL : Hid (L.length ≤ 2000) := hide (by obtain ⟨_, _, _, _, _, _, hl, _⟩ := dags_open HO.out.1; omega)
          generalize l0[k] = p at *
          obtain ⟨p0, p1, p2, p3, p4⟩ := p
          simp only at x0 x1 x2 x3 x4
          have HF := hide (fun w' (hbw : Below w.heap.size w w') => (⟨(hbw.cell hb').trans x0, (hbw.cell hb').trans x1, (hbw.cell hb').trans x2, (hbw.cell hb').trans x3, (hbw.cell hb').trans x4⟩ : w'.cell? ⟨b, off + k * 5, none⟩ = some (.int .i64 p0) ∧ w'.cell? ⟨b, off + k * 5 + 1, none⟩ = some (.int .i64 p1) ∧ w'.cell? ⟨b, off + k * 5 + 2, none⟩ = some (.int .i64 p2) ∧ w'.cell? ⟨b, off + k * 5 + 3, none⟩ = some (.int .i64 p3) ∧ w'.cell? ⟨b, off + k * 5 + 4, none⟩ = some (.bool p4)))
          clear x0 x1 x2 x3 x4 hb hb'
          go_wp2
          go_region_held3 (fun w' => w'.cell? ⟨b, off + k * 5, none⟩ = some (.int .i64 p0) ∧ w'.cell? ⟨b, off + k * 5 + 1, none⟩ = some (.int .i64 p1) ∧ w'.cell? ⟨b, off + k * 5 + 2, none⟩ = some (.int .i64 p2) ∧ w'.cell? ⟨b, off + k * 5 + 3, none⟩ = some (.int .i64 p3) ∧ w'.cell? ⟨b, off + k * 5 + 4, none⟩ = some (.bool p4))
            (first | assumption | exact HF.out _ HO.out.2.drew | exact hcA | exact hcB)
            ((first
              | (go_at_call 36
                 refine (len_any _ g 200 L _ (dags_drawn HO.out.1 ⟨1, rfl⟩)).mono ?_
                 rintro e w' ⟨rfl, rfl⟩)
              | (go_at_call 37
                 refine (made_any p0 p1 p2 p3 p4 L.length HLL.out _).mono ?_
                 rintro e w2 ⟨a, x, y, z, rfl, hb2⟩
                 have ho2 := own_on (own_drn HO.out ⟨1, rfl⟩) hb2
                 have hcA := HF.out w2 ho2.2)
              | (go_at_call 32
                 refine (own_make a x y z ho2).mono ?_
                 rintro e w3 ⟨rfl, ho3⟩
                 have hcB := HF.out w3 ho3.2)))
          all_goals
            have HO3 := hide ho3
            have HG3 := hide (good_make HGD.out 200 (a, x, y, z))
            clear ho3 hcB hcA ho2 hb2
            go_wp2
            go_roundw
            case rel => exact ⟨k + 1, _, h50, by go_num, HO3.out, HG3.out⟩
            case measure => simp [intOf]; omega
        · go_wp2
          go_meet
          exact ⟨L, HO.out, HGD.out⟩
      · go_wp2
        go_meet
        exact ⟨L, HO.out, HGD.out⟩
  case rest =>
    obtain ⟨L, ho, hgd⟩ := hcut
    have H1' := hide ho
    have HGD := hide hgd
    have hL : L.length ≤ 200 := by obtain ⟨_, _, _, _, _, _, h, _⟩ := dags_open ho.1; exact h
    clear ho hgd H1 m1 HS0
    go_wp2
    go_loopw [8] (fun i wr => ∃ k : Nat, k ≤ 60 ∧ i = .int .i64 k ∧ Own w g 200 L wr) (fun i _ => 60 - (intOf i).toNat)
    case atStart => exact ⟨0, by omega, rfl, H1'.out⟩
    case round =>
      clear H1'
      obtain ⟨k, hk, rfl, ho⟩ := hrel
      have HO := hide ho
      clear ho
      by_cases hlt : k < L.length
      · by_cases h60 : k < 60
        · obtain ⟨p, hp⟩ : ∃ p, L[k]? = some p := ⟨_, List.getElem?_eq_getElem hlt⟩
          have hpe : L[k] = p := by have h := List.getElem?_eq_getElem hlt; rw [hp] at h; injection h with h; exact h.symm
          have hbA := brAt_at hp
          have hgk := HGD.out k p hp
          obtain ⟨ka, hka⟩ := Int.eq_ofNat_of_zero_le hgk.1
          have hWK := fun K (hK : ansP ans ka = K) => hK ▸ walkP_step HGD.out ans hp hka
          have s1 := size_kid HGD.out hbA (.inl rfl)
          have s2 := size_kid HGD.out hbA (.inr (.inl rfl))
          have s3 := size_kid HGD.out hbA (.inr (.inr rfl))
          have s4 := size_sum hbA
          have s5 := size_len L (k : Int)
          have hBR := branch_in _ g 200 L k hlt wr HO.out.1
          rw [hpe] at hBR
          obtain ⟨p0, p1, p2, p3⟩ := p
          simp only at hka hgk s1 s2 s3 s4
          obtain ⟨-, -, ⟨r1, t1⟩, ⟨r2, t2⟩, ⟨r3, t3⟩⟩ := hgk
          have HBR := hide hBR
          have HWK := hide hWK
          have I0 : I64 (k : Int) := by unfold I64; omega
          have I1 : I64 p1 := by unfold I64; omega
          have I2 : I64 p2 := by unfold I64; omega
          have I3 : I64 p3 := by unfold I64; omega
          have J0 : -9223372036854775808 ≤ (k : Int) := by omega
          have J1 : -9223372036854775808 ≤ p1 := by omega
          have J2 : -9223372036854775808 ≤ p2 := by omega
          have J3 : -9223372036854775808 ≤ p3 := by omega
          have hk1 : IntKind.i64.wrap ((k : Int) + 1) = (k : Int) + 1 := IntWalk.i64_in _ (by omega)
          have hkl : (k : Int) < (L.length : Int) := by omega
          have HII := hide (⟨I0, I1, I2, I3⟩ : I64 (k : Int) ∧ I64 p1 ∧ I64 p2 ∧ I64 p3)
          clear hp hpe hbA hBR hWK I0 I1 I2 I3 r1 t1 r2 t2 r3 t3
          subst hka
          go_wp2_with fail
          refine (len_any _ g 200 L wr HO.out.1).mono ?_
          rintro e w' ⟨rfl, rfl⟩
          go_wp2_with fail
          refine HBR.out.mono ?_
          rintro e w2 ⟨rfl, hb2⟩
          simp only [brV]
          have HO2 := hide (own_on (own_on HO.out hb2) (below_new w2 (.cells #[.int .i64 (ka : Int), .int .i64 p1, .int .i64 p2, .int .i64 p3] 57)))
          have q0 := new_cell w2 #[.int .i64 (ka : Int), .int .i64 p1, .int .i64 p2, .int .i64 p3] 57 (0, 0) 0 _ rfl
          have q1 := new_cell w2 #[.int .i64 (ka : Int), .int .i64 p1, .int .i64 p2, .int .i64 p3] 57 (0, 0) 1 _ rfl
          have q2 := new_cell w2 #[.int .i64 (ka : Int), .int .i64 p1, .int .i64 p2, .int .i64 p3] 57 (0, 0) 2 _ rfl
          have q3 := new_cell w2 #[.int .i64 (ka : Int), .int .i64 p1, .int .i64 p2, .int .i64 p3] 57 (0, 0) 3 _ rfl
          have HQ := hide (⟨q0, q1, q2, q3⟩ : _ ∧ _ ∧ _ ∧ _)
          clear hb2 HBR q0 q1 q2 q3
          go_upto_region 16 with (fail)
          go_cut [92] from 49 to 91 (InR w g a1 ans n ka (w2.alloc (.cells #[.int .i64 (ka : Int), .int .i64 p1, .int .i64 p2, .int .i64 p3] 57)))
          case first =>
            by_cases hka : ka < n
            · have hka' : ka < ans.length := by rw [HLN.out]; exact hka
              obtain ⟨b, off, rfl, hb, hc⟩ := HSA.out.at (i := ka) (x := .int .i64 ans[ka]) (by simp [vints, hka'])
              have he : ansP ans ka = if ans[ka] < 0 ∨ 2 < ans[ka] then 1 else ans[ka].toNat := by unfold ansP; rw [List.getElem?_eq_getElem hka']
              have hc3 : (w2.alloc (.cells #[.int .i64 (ka : Int), .int .i64 p1, .int .i64 p2, .int .i64 p3] 57)).cell? ⟨b, off + ka, none⟩ = some (.int .i64 ans[ka]) := (HO2.out.2.cell (hg.symm ▸ hb)).trans hc
              have h2 : (ka : Int) < (n : Int) := by omega
              generalize ans[ka] = v at *
              by_cases hv : v < 0
              · rw [if_pos (.inl hv)] at he
                have hv' : ¬ 0 ≤ v := by omega
                have HE := hide he
                clear he hc
                go_wp2
                go_meet
                exact ⟨false, rfl, rfl, fun h => Bool.noConfusion h, fun _ => HE.out⟩
              · by_cases hv2 : 2 < v
                · rw [if_pos (.inr hv2)] at he
                  have hv' : 0 ≤ v := by omega
                  have hv2' : ¬ v ≤ 2 := by omega
                  have HE := hide he
                  clear he hc
                  go_wp2
                  go_meet
                  exact ⟨false, rfl, rfl, fun h => Bool.noConfusion h, fun _ => HE.out⟩
                · rw [if_neg (by omega)] at he
                  obtain ⟨vv, rfl⟩ := Int.eq_ofNat_of_zero_le (by omega : 0 ≤ v)
                  have hv2' : (vv : Int) ≤ 2 := by omega
                  have hv' : (0 : Int) ≤ (vv : Int) := by omega
                  have HE := hide he
                  have HC := hide hc
                  clear he hc
                  go_wp2
                  go_meet
                  exact ⟨true, rfl, rfl, fun _ => ⟨vv, b, off, rfl, hb, HC.out, hka, by have := HE.out; rwa [Int.toNat_natCast] at this⟩, fun h => Bool.noConfusion h⟩
            · have he : ansP ans ka = 1 := by unfold ansP; rw [List.getElem?_eq_none (by rw [HLN.out]; omega)]
              have h2 : ¬ (ka : Int) < (n : Int) := by omega
              have HE := hide he
              clear he
              go_wp2
              go_meet
              exact ⟨false, rfl, rfl, fun h => Bool.noConfusion h, fun _ => HE.out⟩
          case rest =>
            obtain ⟨E, hv, hw, ht, hf⟩ := hcut
            subst hv
            subst hw
            obtain ⟨K, hK⟩ : ∃ K, K = ansP ans ka := ⟨_, rfl⟩
            rw [← hK] at ht hf
            go_upto_if 92 with (fail)
            go_cut [11] from 49 to 97 (fun v w' => v = .int .i64 (K : Nat) ∧ (w2.alloc (.cells #[.int .i64 (ka : Int), .int .i64 p1, .int .i64 p2, .int .i64 p3] 57)) = w')
            case first =>
              cases E
              · have HF := hide (hf rfl)
                clear ht hf
                go_wp2
                go_meet
                exact ⟨by rw [HF.out]; rfl, rfl⟩
              · obtain ⟨vv, b, off, rfl, hb, hc, hkn, hvv⟩ := ht rfl
                have hc3 : (w2.alloc (.cells #[.int .i64 (ka : Int), .int .i64 p1, .int .i64 p2, .int .i64 p3] 57)).cell? ⟨b, off + ka, none⟩ = some (.int .i64 (vv : Nat)) := (HO2.out.2.cell (hg.symm ▸ hb)).trans hc
                have h2 : (ka : Int) < (n : Int) := by omega
                have HF := hide hvv
                clear ht hf hc hvv
                go_wp2
                go_meet
                exact ⟨by rw [HF.out], rfl⟩
            case rest =>
              obtain ⟨hv, hw⟩ := hcut
              subst hv
              subst hw
              generalize w2.alloc (.cells #[.int .i64 (ka : Int), .int .i64 p1, .int .i64 p2, .int .i64 p3] 57) = w3 at *
              generalize w2.heap.size = nb at *
              have j0 : ∀ w : World, (Instr.index 55 (.agg #[.int .i64 p1, .int .i64 p2, .int .i64 p3]) (.int .i64 0)).run Try.prog w = .ok (.int .i64 p1) w := fun _ => by kernel_rfl
              have j1 : ∀ w : World, (Instr.index 55 (.agg #[.int .i64 p1, .int .i64 p2, .int .i64 p3]) (.int .i64 1)).run Try.prog w = .ok (.int .i64 p2) w := fun _ => by kernel_rfl
              have j2 : ∀ w : World, (Instr.index 55 (.agg #[.int .i64 p1, .int .i64 p2, .int .i64 p3]) (.int .i64 2)).run Try.prog w = .ok (.int .i64 p3) w := fun _ => by kernel_rfl
              obtain ⟨q0, q1, q2, q3⟩ := HQ.out
              have HNB : Hid (nb < w3.heap.size) := hide (World.block_lt_of_cell? w3 _ q0)
              have CI := hide (fun wx (hb : Below w3.heap.size w3 wx) => size_way (k : Int) HGD.out (own_on HO2.out hb) HII.out.1)
              have CX := hide (fun wx (hb : Below w3.heap.size w3 wx) => size_way p1 HGD.out (own_on HO2.out hb) HII.out.2.1)
              have CY := hide (fun wx (hb : Below w3.heap.size w3 wx) => size_way p2 HGD.out (own_on HO2.out hb) HII.out.2.2.1)
              have CZ := hide (fun wx (hb : Below w3.heap.size w3 wx) => size_way p3 HGD.out (own_on HO2.out hb) HII.out.2.2.2)
              generalize sizeP L (k : Int) = si at CI s1 s2 s3 s4 s5
              generalize sizeP L p1 = sx at CX s1 s4
              generalize sizeP L p2 = sy at CY s2 s4
              generalize sizeP L p3 = sz at CZ s3 s4
              have aa1 : IntKind.i64.wrap (1 + (sx : Int)) = 1 + (sx : Int) := IntWalk.i64_in _ (by omega)
              have aa2 : IntKind.i64.wrap (1 + (sx : Int) + (sy : Int)) = 1 + (sx : Int) + (sy : Int) := IntWalk.i64_in _ (by omega)
              have aa3 : IntKind.i64.wrap (1 + (sx : Int) + (sy : Int) + (sz : Int)) = 1 + (sx : Int) + (sy : Int) + (sz : Int) := IntWalk.i64_in _ (by omega)
              have n1 : ¬ (si : Int) ≤ (sx : Int) := by omega
              have n2 : ¬ (si : Int) ≤ (sy : Int) := by omega
              have n3 : ¬ (si : Int) ≤ (sz : Int) := by omega
              have n4 : ¬ 1 + (sx : Int) + (sy : Int) + (sz : Int) < (si : Int) := by omega
              have n5 : ¬ (L.length : Int) < (si : Int) := by omega
              have B0 := hide (Below.refl w3.heap.size w3)
              clear s1 s2 s3 s4 s5 HO
              go_wp2
              refine wp_loop_rounds 4 ?_
              rw [rounds_succ]
              go_wp2_with fail
              refine (CX.out _ B0.out).mono ?_
              rintro e x1 ⟨rfl, hb⟩
              have B1 := hide (below_on B0.out hb)
              clear hb
              go_wp2_with fail
              refine (CX.out _ B1.out).mono ?_
              rintro e x2 ⟨rfl, hb⟩
              have B2 := hide (below_on B1.out hb)
              clear hb
              go_wp2_with fail
              refine (CI.out _ B2.out).mono ?_
              rintro e x3 ⟨rfl, hb⟩
              have B3 := hide (below_on B2.out hb)
              clear hb
              go_wp2
              rw [rounds_succ]
              go_wp2_with fail
              refine (CY.out _ B3.out).mono ?_
              rintro e x4 ⟨rfl, hb⟩
              have B4 := hide (below_on B3.out hb)
              clear hb
              go_wp2_with fail
              refine (CY.out _ B4.out).mono ?_
              rintro e x5 ⟨rfl, hb⟩
              have B5 := hide (below_on B4.out hb)
              clear hb
              go_wp2_with fail
              refine (CI.out _ B5.out).mono ?_
              rintro e x6 ⟨rfl, hb⟩
              have B6 := hide (below_on B5.out hb)
              clear hb
              go_wp2
              rw [rounds_succ]
              go_wp2_with fail
              refine (CZ.out _ B6.out).mono ?_
              rintro e x7 ⟨rfl, hb⟩
              have B7 := hide (below_on B6.out hb)
              clear hb
              go_wp2_with fail
              refine (CZ.out _ B7.out).mono ?_
              rintro e x8 ⟨rfl, hb⟩
              have B8 := hide (below_on B7.out hb)
              clear hb
              go_wp2_with fail
              refine (CI.out _ B8.out).mono ?_
              rintro e x9 ⟨rfl, hb⟩
              have B9 := hide (below_on B8.out hb)
              clear hb
              go_wp2
              rw [rounds_succ]
              go_wp2
              have e0 : ∀ p : In (Aft x9), p.w.cell? ⟨nb, 0, none⟩ = some (.int .i64 (ka : Int)) := fun p => ((below_on B9.out p.h).cell HNB.out).trans q0
              have e1 : ∀ p : In (Aft x9), p.w.cell? ⟨nb, 1, none⟩ = some (.int .i64 p1) := fun p => ((below_on B9.out p.h).cell HNB.out).trans q1
              have e2 : ∀ p : In (Aft x9), p.w.cell? ⟨nb, 2, none⟩ = some (.int .i64 p2) := fun p => ((below_on B9.out p.h).cell HNB.out).trans q2
              have e3 : ∀ p : In (Aft x9), p.w.cell? ⟨nb, 3, none⟩ = some (.int .i64 p3) := fun p => ((below_on B9.out p.h).cell HNB.out).trans q3
              have OW := hide (fun w' (hb : Below x9.heap.size x9 w') => own_on HO2.out (below_on B9.out hb))
              have WW := hide (fun root (hr : -9223372036854775808 ≤ root) w' (hb : Below x9.heap.size x9 w') => walk_any _ g 200 L a1 cap1 n ans HLN.out root w' g hr HGD.out (OW.out w' hb).1 (HSA.out.below (hg ▸ (OW.out w' hb).2)))
              clear q0 q1 q2 q3 j0 j1 j2 aa1 aa2 aa3
              have d4 : decide (1 + (sx : Int) + (sy : Int) + (sz : Int) < (si : Int)) = false := decide_eq_false (by omega)
              have d5 : decide ((L.length : Int) < (si : Int)) = false := decide_eq_false (by omega)
              have d6 : decide (L.length < si) = false := decide_eq_false (by omega)
              rcases ansP_le ans ka with h | h | h
              all_goals
                have hwk := HWK.out _ h
                rw [h]
                simp only [toP] at hwk
                simp at hwk
                clear h
                refine wp_region_in (C := Aft x9) (by kernel_rfl) (by kernel_rfl) (aft_drew x9) ?_
                repeat (go_big_quiet_step ((first
                  | (go_at_call 34; exact in_call fun w' hb => (WW.out _ (by assumption) w' hb).mono fun e w'' h => ⟨h.1, below_drawn hb h.2⟩)
                  | (go_at_call 35; exact in_call fun w' hb => (CI.out w' (below_on B9.out hb)).mono fun e w'' h => ⟨h.1, below_on hb h.2⟩)
                  | (go_at_call 36; exact in_call fun w' hb => (len_any _ g 200 L w' (OW.out w' hb).1).mono fun e w'' h => ⟨h.1, h.2 ▸ hb⟩))))
                refine wpQuiet_nil ?_
                intro w' hb'
                have HFIN := hide (OW.out w' hb')
                clear hb'
                go_wp2
                go_roundw
                case rel => exact ⟨k + 1, h60, by go_num, HFIN.out⟩
                case measure => simp [intOf]; omega
        · go_wp2_with fail
          refine (len_any _ g 200 L wr HO.out.1).mono ?_
          rintro e w' ⟨rfl, rfl⟩
          go_wp2_with fail
          refine (dagRuns_walk wr).mono ?_
          rintro e w7 ⟨rfl, hb⟩
          have HB := hide (below_on HO.out.2 hb)
          clear hb
          go_wp2
          go_ret
          exact ⟨rfl, hg ▸ HB.out⟩
      · go_wp2_with fail
        refine (len_any _ g 200 L wr HO.out.1).mono ?_
        rintro e w' ⟨rfl, rfl⟩
        go_wp2_with fail
        refine (dagRuns_walk wr).mono ?_
        rintro e w7 ⟨rfl, hb⟩
        have HB := hide (below_on HO.out.2 hb)
        clear hb
        go_wp2
        go_ret
        exact ⟨rfl, hg ▸ HB.out⟩
end Go.Proofs.Ytinlnfhicnejmaa
