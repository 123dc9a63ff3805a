/-
  CONTRACT OF the document's own Make of chapter 16.
-/
import Derived.Test.YtinlnfhicnejmaaDagKeepV
namespace Go.Proofs.Ytinlnfhicnejmaa
open Go.RowKit
set_option linter.unusedVariables false

/-- The k-th way is looked at. -/
def RWayRel (w1 : World) (l : List Br) (a x y z : Int) (i : Value) (wr : World) : Prop :=
  ∃ k n : Nat, k ≤ 3 ∧ i = .int .i64 k ∧ wr = w1.drewN n ∧ (1 ≤ k → mayP l a x = true) ∧ (2 ≤ k → mayP l a y = true) ∧ (3 ≤ k → mayP l a z = true)
/-- The k-th branch is looked at. -/
def RIdxRel (w1 : World) (l : List Br) (b : Br) (R : Int) (i : Value) (wr : World) : Prop :=
  ∃ k n : Nat, k ≤ l.length ∧ i = .int .i64 k ∧ wr = w1.drewN n ∧ idxP b (l.drop k) k = R
set_option maxHeartbeats 4000000 in
set_option maxRecDepth 20000 in
theorem rmake_v (lo g most : Nat) (l : List Br) (a x y z : Int) (v : Value) (w : World) (hlo : lo ≤ w.heap.size) (h : DagV 66 w lo g most l v) :
    Calls Try.prog 38 #[.pointer (some ⟨g, 0, none⟩), .agg #[.int .i64 a, .int .i64 x, .int .i64 y, .int .i64 z]] w (MadeV 66 lo g most w v (makeP most l (a, x, y, z))) := by
  obtain ⟨A, c, hv, _⟩ := own_slice h.2.1
  subst hv
  have hnew := below_new w (.cells #[.int .i64 a, .int .i64 x, .int .i64 y, .int .i64 z] 57)
  have z0 := new_cell w #[.int .i64 a, .int .i64 x, .int .i64 y, .int .i64 z] 57 (0, 0) 0 _ rfl
  have z1 := new_cell w #[.int .i64 a, .int .i64 x, .int .i64 y, .int .i64 z] 57 (0, 0) 1 _ rfl
  have z2 := new_cell w #[.int .i64 a, .int .i64 x, .int .i64 y, .int .i64 z] 57 (0, 0) 2 _ rfl
  have z3 := new_cell w #[.int .i64 a, .int .i64 x, .int .i64 y, .int .i64 z] 57 (0, 0) 3 _ rfl
  have HD1 := hide (dagV_below h hnew)
  have HB1 := hide (hnew.mono hlo)
  have HK1 := hide (keepV_below g (.slice A l.length c) hnew)
  obtain ⟨R, hR⟩ : ∃ R, R = makeP most l (a, x, y, z) := ⟨_, rfl⟩
  rw [← hR]
  unfold makeP at hR
  simp only at hR
  clear h hnew
  by_cases ha : a < 0 ∨ 64 ≤ a
  · rw [if_pos ha] at hR
    subst hR
    rcases ha with ha | ha
    · go_enter Try.func38, Try.ntmps38
      go_wp2
      go_ret2
      exact ⟨_, rfl, HD1.out, HB1.out, HK1.out, .inl rfl⟩
    · have ha' : ¬ a < 0 := by omega
      go_enter Try.func38, Try.ntmps38
      go_wp2
      go_ret2
      exact ⟨_, rfl, HD1.out, HB1.out, HK1.out, .inl rfl⟩
  · rw [if_neg ha] at hR
    have a1 : ¬ a < 0 := fun h => ha (.inl h)
    have a2 : ¬ 64 ≤ a := fun h => ha (.inr h)
    have HRR := hide hR
    clear hR ha
    have j0 : ∀ w : World, (Instr.index 55 (.agg #[.int .i64 x, .int .i64 y, .int .i64 z]) (.int .i64 0)).run Try.prog w = .ok (.int .i64 x) w := fun _ => by kernel_rfl
    have j1 : ∀ w : World, (Instr.index 55 (.agg #[.int .i64 x, .int .i64 y, .int .i64 z]) (.int .i64 1)).run Try.prog w = .ok (.int .i64 y) w := fun _ => by kernel_rfl
    have j2 : ∀ w : World, (Instr.index 55 (.agg #[.int .i64 x, .int .i64 y, .int .i64 z]) (.int .i64 2)).run Try.prog w = .ok (.int .i64 z) w := fun _ => by kernel_rfl
    obtain ⟨c0, c1, hsl, hc, hlm, hm20⟩ := dagV_open HD1.out
    have HSL := hide hsl
    clear hsl
    go_enter Try.func38, Try.ntmps38
    go_wp2
    go_loopw [19] (fun i wr => RWayRel (w.alloc (.cells #[.int .i64 a, .int .i64 x, .int .i64 y, .int .i64 z] 57)) l a x y z i wr) (fun i _ => 3 - (intOf i).toNat)
    case atStart => exact ⟨0, 0, by omega, rfl, rfl, fun h => by omega, fun h => by omega, fun h => by omega⟩
    case round =>
      obtain ⟨k, n, hk, rfl, rfl, m1, m2, m3⟩ := hrel
      have M1 := hide m1
      have M2 := hide m2
      have M3 := hide m3
      clear m1 m2 m3
      generalize w.alloc (.cells #[.int .i64 a, .int .i64 x, .int .i64 y, .int .i64 z] 57) = w1 at *
      generalize w.heap.size = nb at *
      obtain rfl | rfl | rfl | rfl : k = 0 ∨ k = 1 ∨ k = 2 ∨ k = 3 := by omega
      · by_cases hn : x < 0
        · have d1 : decide ((l.length : Int) ≤ x) = false := decide_eq_false (by omega)
          have d3 : decide (0 ≤ x) = false := decide_eq_false (by omega)
          by_cases hlw : x < -1048576
          · have hm : mayP l a x = false := by rw [mayP_neg hn]; exact decide_eq_false (by omega)
            have d2 : decide (x < -1048576) = true := decide_eq_true hlw
            clear hn hlw
            have hR2 := HRR.out
            rw [if_pos (by rw [hm]; simp)] at hR2
            subst hR2
            clear hm
            go_wp2
            go_quiet (fail)
            go_wp2
            go_ret2
            exact ⟨_, rfl, dagV_drawn HD1.out ⟨n + nq, World.drewN_drewN _ n nq⟩, below_drawn HB1.out ⟨n + nq, World.drewN_drewN _ n nq⟩, HK1.out.drawn ⟨n + nq, World.drewN_drewN _ n nq⟩, .inl rfl⟩
          · have hm : mayP l a x = true := by rw [mayP_neg hn]; exact decide_eq_true (by omega)
            have d2 : decide (x < -1048576) = false := decide_eq_false hlw
            clear hn hlw
            have HM := hide hm
            clear hm
            go_wp2
            go_quiet (fail)
            go_wp2
            go_roundw
            case rel => exact ⟨1, n + nq, by omega, by go_num, rfl, fun _ => HM.out, fun h => by omega, fun h => by omega⟩
            case measure => simp [intOf]
        · obtain ⟨q, rfl⟩ := Int.eq_ofNat_of_zero_le (by omega : 0 ≤ x)
          by_cases hq : q < l.length
          · obtain ⟨b, off, rfl, hb, x0, _⟩ := HSL.out.branch hq
            have hmq := mayP_at (atom := a) hq
            generalize l[q] = p at *
            obtain ⟨p0, p1, p2, p3⟩ := p
            simp only at x0 hmq
            have d1 : decide ((l.length : Int) ≤ (q : Int)) = false := decide_eq_false (by omega)
            have d1' : decide (l.length ≤ q) = false := decide_eq_false (by omega)
            have d2 : decide ((q : Int) < -1048576) = false := decide_eq_false (by omega)
            have d3 : decide (0 ≤ (q : Int)) = true := decide_eq_true (by omega)
            by_cases hp : a < p0
            · have hm : mayP l a (q : Int) = true := by rw [hmq]; exact decide_eq_true hp
              have d4 : decide (p0 ≤ a) = false := decide_eq_false (by omega)
              clear hn hmq hp hb
              have HM := hide hm
              clear hm
              go_wp2
              go_quiet (fail)
              go_wp2
              go_roundw
              case rel => exact ⟨1, n + nq, by omega, by go_num, rfl, fun _ => HM.out, fun h => by omega, fun h => by omega⟩
              case measure => simp [intOf]
            · have hm : mayP l a (q : Int) = false := by rw [hmq]; exact decide_eq_false hp
              have d4 : decide (p0 ≤ a) = true := decide_eq_true (by omega)
              clear hn hmq hp hb
              have hR2 := HRR.out
              rw [if_pos (by rw [hm]; simp)] at hR2
              subst hR2
              clear hm
              go_wp2
              go_quiet (fail)
              go_wp2
              go_ret2
              exact ⟨_, rfl, dagV_drawn HD1.out ⟨n + nq, World.drewN_drewN _ n nq⟩, below_drawn HB1.out ⟨n + nq, World.drewN_drewN _ n nq⟩, HK1.out.drawn ⟨n + nq, World.drewN_drewN _ n nq⟩, .inl rfl⟩
          · have hm := mayP_out (atom := a) (show l.length ≤ q by omega)
            have d1 : decide ((l.length : Int) ≤ (q : Int)) = true := decide_eq_true (by omega)
            have d1' : decide (l.length ≤ q) = true := decide_eq_true (by omega)
            clear hn
            have hR2 := HRR.out
            rw [if_pos (by rw [hm]; simp)] at hR2
            subst hR2
            clear hm
            go_wp2
            go_quiet (fail)
            go_wp2
            go_ret2
            exact ⟨_, rfl, dagV_drawn HD1.out ⟨n + nq, World.drewN_drewN _ n nq⟩, below_drawn HB1.out ⟨n + nq, World.drewN_drewN _ n nq⟩, HK1.out.drawn ⟨n + nq, World.drewN_drewN _ n nq⟩, .inl rfl⟩
      · have HM1 := hide (M1.out (by omega))
        by_cases hn : y < 0
        · have d1 : decide ((l.length : Int) ≤ y) = false := decide_eq_false (by omega)
          have d3 : decide (0 ≤ y) = false := decide_eq_false (by omega)
          by_cases hlw : y < -1048576
          · have hm : mayP l a y = false := by rw [mayP_neg hn]; exact decide_eq_false (by omega)
            have d2 : decide (y < -1048576) = true := decide_eq_true hlw
            clear hn hlw
            have hR2 := HRR.out
            rw [if_pos (by rw [hm]; simp)] at hR2
            subst hR2
            clear hm
            go_wp2
            go_quiet (fail)
            go_wp2
            go_ret2
            exact ⟨_, rfl, dagV_drawn HD1.out ⟨n + nq, World.drewN_drewN _ n nq⟩, below_drawn HB1.out ⟨n + nq, World.drewN_drewN _ n nq⟩, HK1.out.drawn ⟨n + nq, World.drewN_drewN _ n nq⟩, .inl rfl⟩
          · have hm : mayP l a y = true := by rw [mayP_neg hn]; exact decide_eq_true (by omega)
            have d2 : decide (y < -1048576) = false := decide_eq_false hlw
            clear hn hlw
            have HM := hide hm
            clear hm
            go_wp2
            go_quiet (fail)
            go_wp2
            go_roundw
            case rel => exact ⟨2, n + nq, by omega, by go_num, rfl, fun _ => M1.out (by omega), fun _ => HM.out, fun h => by omega⟩
            case measure => simp [intOf]
        · obtain ⟨q, rfl⟩ := Int.eq_ofNat_of_zero_le (by omega : 0 ≤ y)
          by_cases hq : q < l.length
          · obtain ⟨b, off, rfl, hb, x0, _⟩ := HSL.out.branch hq
            have hmq := mayP_at (atom := a) hq
            generalize l[q] = p at *
            obtain ⟨p0, p1, p2, p3⟩ := p
            simp only at x0 hmq
            have d1 : decide ((l.length : Int) ≤ (q : Int)) = false := decide_eq_false (by omega)
            have d1' : decide (l.length ≤ q) = false := decide_eq_false (by omega)
            have d2 : decide ((q : Int) < -1048576) = false := decide_eq_false (by omega)
            have d3 : decide (0 ≤ (q : Int)) = true := decide_eq_true (by omega)
            by_cases hp : a < p0
            · have hm : mayP l a (q : Int) = true := by rw [hmq]; exact decide_eq_true hp
              have d4 : decide (p0 ≤ a) = false := decide_eq_false (by omega)
              clear hn hmq hp hb
              have HM := hide hm
              clear hm
              go_wp2
              go_quiet (fail)
              go_wp2
              go_roundw
              case rel => exact ⟨2, n + nq, by omega, by go_num, rfl, fun _ => M1.out (by omega), fun _ => HM.out, fun h => by omega⟩
              case measure => simp [intOf]
            · have hm : mayP l a (q : Int) = false := by rw [hmq]; exact decide_eq_false hp
              have d4 : decide (p0 ≤ a) = true := decide_eq_true (by omega)
              clear hn hmq hp hb
              have hR2 := HRR.out
              rw [if_pos (by rw [hm]; simp)] at hR2
              subst hR2
              clear hm
              go_wp2
              go_quiet (fail)
              go_wp2
              go_ret2
              exact ⟨_, rfl, dagV_drawn HD1.out ⟨n + nq, World.drewN_drewN _ n nq⟩, below_drawn HB1.out ⟨n + nq, World.drewN_drewN _ n nq⟩, HK1.out.drawn ⟨n + nq, World.drewN_drewN _ n nq⟩, .inl rfl⟩
          · have hm := mayP_out (atom := a) (show l.length ≤ q by omega)
            have d1 : decide ((l.length : Int) ≤ (q : Int)) = true := decide_eq_true (by omega)
            have d1' : decide (l.length ≤ q) = true := decide_eq_true (by omega)
            clear hn
            have hR2 := HRR.out
            rw [if_pos (by rw [hm]; simp)] at hR2
            subst hR2
            clear hm
            go_wp2
            go_quiet (fail)
            go_wp2
            go_ret2
            exact ⟨_, rfl, dagV_drawn HD1.out ⟨n + nq, World.drewN_drewN _ n nq⟩, below_drawn HB1.out ⟨n + nq, World.drewN_drewN _ n nq⟩, HK1.out.drawn ⟨n + nq, World.drewN_drewN _ n nq⟩, .inl rfl⟩
      · have HM1 := hide (M1.out (by omega))
        have HM2 := hide (M2.out (by omega))
        by_cases hn : z < 0
        · have d1 : decide ((l.length : Int) ≤ z) = false := decide_eq_false (by omega)
          have d3 : decide (0 ≤ z) = false := decide_eq_false (by omega)
          by_cases hlw : z < -1048576
          · have hm : mayP l a z = false := by rw [mayP_neg hn]; exact decide_eq_false (by omega)
            have d2 : decide (z < -1048576) = true := decide_eq_true hlw
            clear hn hlw
            have hR2 := HRR.out
            rw [if_pos (by rw [hm]; simp)] at hR2
            subst hR2
            clear hm
            go_wp2
            go_quiet (fail)
            go_wp2
            go_ret2
            exact ⟨_, rfl, dagV_drawn HD1.out ⟨n + nq, World.drewN_drewN _ n nq⟩, below_drawn HB1.out ⟨n + nq, World.drewN_drewN _ n nq⟩, HK1.out.drawn ⟨n + nq, World.drewN_drewN _ n nq⟩, .inl rfl⟩
          · have hm : mayP l a z = true := by rw [mayP_neg hn]; exact decide_eq_true (by omega)
            have d2 : decide (z < -1048576) = false := decide_eq_false hlw
            clear hn hlw
            have HM := hide hm
            clear hm
            go_wp2
            go_quiet (fail)
            go_wp2
            go_roundw
            case rel => exact ⟨3, n + nq, by omega, by go_num, rfl, fun _ => M1.out (by omega), fun _ => M2.out (by omega), fun _ => HM.out⟩
            case measure => simp [intOf]
        · obtain ⟨q, rfl⟩ := Int.eq_ofNat_of_zero_le (by omega : 0 ≤ z)
          by_cases hq : q < l.length
          · obtain ⟨b, off, rfl, hb, x0, _⟩ := HSL.out.branch hq
            have hmq := mayP_at (atom := a) hq
            generalize l[q] = p at *
            obtain ⟨p0, p1, p2, p3⟩ := p
            simp only at x0 hmq
            have d1 : decide ((l.length : Int) ≤ (q : Int)) = false := decide_eq_false (by omega)
            have d1' : decide (l.length ≤ q) = false := decide_eq_false (by omega)
            have d2 : decide ((q : Int) < -1048576) = false := decide_eq_false (by omega)
            have d3 : decide (0 ≤ (q : Int)) = true := decide_eq_true (by omega)
            by_cases hp : a < p0
            · have hm : mayP l a (q : Int) = true := by rw [hmq]; exact decide_eq_true hp
              have d4 : decide (p0 ≤ a) = false := decide_eq_false (by omega)
              clear hn hmq hp hb
              have HM := hide hm
              clear hm
              go_wp2
              go_quiet (fail)
              go_wp2
              go_roundw
              case rel => exact ⟨3, n + nq, by omega, by go_num, rfl, fun _ => M1.out (by omega), fun _ => M2.out (by omega), fun _ => HM.out⟩
              case measure => simp [intOf]
            · have hm : mayP l a (q : Int) = false := by rw [hmq]; exact decide_eq_false hp
              have d4 : decide (p0 ≤ a) = true := decide_eq_true (by omega)
              clear hn hmq hp hb
              have hR2 := HRR.out
              rw [if_pos (by rw [hm]; simp)] at hR2
              subst hR2
              clear hm
              go_wp2
              go_quiet (fail)
              go_wp2
              go_ret2
              exact ⟨_, rfl, dagV_drawn HD1.out ⟨n + nq, World.drewN_drewN _ n nq⟩, below_drawn HB1.out ⟨n + nq, World.drewN_drewN _ n nq⟩, HK1.out.drawn ⟨n + nq, World.drewN_drewN _ n nq⟩, .inl rfl⟩
          · have hm := mayP_out (atom := a) (show l.length ≤ q by omega)
            have d1 : decide ((l.length : Int) ≤ (q : Int)) = true := decide_eq_true (by omega)
            have d1' : decide (l.length ≤ q) = true := decide_eq_true (by omega)
            clear hn
            have hR2 := HRR.out
            rw [if_pos (by rw [hm]; simp)] at hR2
            subst hR2
            clear hm
            go_wp2
            go_quiet (fail)
            go_wp2
            go_ret2
            exact ⟨_, rfl, dagV_drawn HD1.out ⟨n + nq, World.drewN_drewN _ n nq⟩, below_drawn HB1.out ⟨n + nq, World.drewN_drewN _ n nq⟩, HK1.out.drawn ⟨n + nq, World.drewN_drewN _ n nq⟩, .inl rfl⟩
      · have hall : mayP l a x = true ∧ mayP l a y = true ∧ mayP l a z = true := ⟨M1.out (by omega), M2.out (by omega), M3.out (by omega)⟩
        have hR := HRR.out
        rw [if_neg (fun h => h hall)] at hR
        clear hall HRR M1 M2 M3 j0 j1 j2
        have HD2 := hide (dagV_drawn HD1.out ⟨n, rfl⟩)
        have HB2 := hide (below_drawn HB1.out ⟨n, rfl⟩)
        have HK2 := hide (HK1.out.drawn ⟨n, rfl⟩)
        have hnb : nb < w1.heap.size := World.block_lt_of_cell? w1 _ z0
        have c0' : (w1.drewN n).cell? ⟨g, 0, none⟩ = some (.int .i64 (most : Nat)) := c0
        have c1' : (w1.drewN n).cell? ⟨g, 1, none⟩ = some (.slice A l.length c) := c1
        have q0' : (w1.drewN n).cell? ⟨nb, 0, none⟩ = some (.int .i64 a) := z0
        have q1' : (w1.drewN n).cell? ⟨nb, 1, none⟩ = some (.int .i64 x) := z1
        have q2' : (w1.drewN n).cell? ⟨nb, 2, none⟩ = some (.int .i64 y) := z2
        have q3' : (w1.drewN n).cell? ⟨nb, 3, none⟩ = some (.int .i64 z) := z3
        have HS2 : Hid (Sl (w1.drewN n) w1.heap.size A (cells4 l)) := hide HSL.out
        have HN2 : Hid (g < (w1.drewN n).heap.size ∧ nb < (w1.drewN n).heap.size) := hide ⟨dagV_lt HD1.out, hnb⟩
        clear c0 c1 z0 z1 z2 z3 HD1 HB1 HK1 HSL hnb
        generalize w1.heap.size = N1 at *
        generalize w1.drewN n = w2 at *
        by_cases hs : y = x ∧ z = x
        · rw [if_pos hs] at hR
          obtain ⟨rfl, rfl⟩ := hs
          subst hR
          go_wp2
          go_ret2
          exact ⟨_, rfl, HD2.out, HB2.out, HK2.out, .inl rfl⟩
        · rw [if_neg hs] at hR
          have HRX := hide hR
          have hsx : (x == y && y == z) = false := by
            rw [Bool.eq_false_iff]
            intro h
            rw [Bool.and_eq_true, beq_iff_eq, beq_iff_eq] at h
            exact hs ⟨h.1.symm, h.2.symm.trans h.1.symm⟩
          clear hR hs
          obtain ⟨I, hI⟩ : ∃ I, I = idxP (a, x, y, z) l 0 := ⟨_, rfl⟩
          rw [← hI] at HRX
          have HI := hide hI
          clear hI
          rcases e1 : (x == y) with _ | _ <;> rcases e2 : (y == z) with _ | _
          case true.true => rw [e1, e2] at hsx; cases hsx
          all_goals
            clear hsx
            go_wp2
            go_loopw [75] (fun i wr => RIdxRel w2 l (a, x, y, z) I i wr) (fun i _ => l.length - (intOf i).toNat)
            case atStart => exact ⟨0, 0, by omega, rfl, rfl, HI.out.symm⟩
            case round =>
              obtain ⟨k, n, hk, rfl, rfl, hidx⟩ := hrel
              by_cases hlt : k < l.length
              · obtain ⟨b, off, rfl, hb, x0, x1, x2, x3⟩ := HS2.out.branch hlt
                rw [List.drop_eq_getElem_cons hlt] at hidx
                generalize l[k] = p at *
                obtain ⟨pa, px, py, pz⟩ := p
                simp only at x0 x1 x2 x3
                have heq := eqBr (pa, px, py, pz) (a, x, y, z)
                have hk1 : IntKind.i64.wrap ((k : Int) + 1) = (k : Int) + 1 := IntWalk.i64_in _ (by omega)
                unfold brV at heq
                simp only at heq
                unfold idxP at hidx
                clear hb
                by_cases he : ((pa, px, py, pz) : Br) = (a, x, y, z)
                · rw [if_pos he] at hidx
                  rw [decide_eq_true he] at heq
                  have HII : Hid ((k : Int) = I) := hide hidx
                  have hR := HRX.out
                  rw [if_pos (by rw [← HII.out]; omega)] at hR
                  subst hR
                  clear hidx he
                  go_wp2
                  go_quiet (fail)
                  go_wp2
                  go_ret2
                  exact ⟨_, by rw [← HII.out]; rfl, dagV_drawn HD2.out ⟨n + nq, World.drewN_drewN _ n nq⟩, below_drawn HB2.out ⟨n + nq, World.drewN_drewN _ n nq⟩, HK2.out.drawn ⟨n + nq, World.drewN_drewN _ n nq⟩, .inl rfl⟩
                · rw [if_neg he] at hidx
                  rw [decide_eq_false he] at heq
                  have HII := hide hidx
                  clear hidx he
                  go_wp2
                  go_quiet (fail)
                  go_wp2
                  go_roundw
                  case rel => exact ⟨k + 1, n + nq, hlt, by go_num, rfl, HII.out⟩
                  case measure => simp [intOf]; omega
              · obtain rfl : k = l.length := by omega
                rw [List.drop_length] at hidx
                have hR := HRX.out
                rw [if_neg (by rw [← hidx]; show ¬ (0 : Int) ≤ -1; decide)] at hR
                have HR5 := hide hR
                clear hR hidx HRX HI hk e1 e2
                have HD4 := hide (dagV_drawn HD2.out ⟨n, rfl⟩)
                have HB4 := hide (below_drawn HB2.out ⟨n, rfl⟩)
                have HK4 := hide (HK2.out.drawn ⟨n, rfl⟩)
                have b0 : (w2.drewN n).cell? ⟨g, 0, none⟩ = some (.int .i64 (most : Nat)) := c0'
                have b1 : (w2.drewN n).cell? ⟨g, 1, none⟩ = some (.slice A l.length c) := c1'
                have b2 : (w2.drewN n).cell? ⟨nb, 0, none⟩ = some (.int .i64 a) := q0'
                have b3 : (w2.drewN n).cell? ⟨nb, 1, none⟩ = some (.int .i64 x) := q1'
                have b4 : (w2.drewN n).cell? ⟨nb, 2, none⟩ = some (.int .i64 y) := q2'
                have b5 : (w2.drewN n).cell? ⟨nb, 3, none⟩ = some (.int .i64 z) := q3'
                have HN4 : Hid (g < (w2.drewN n).heap.size ∧ nb < (w2.drewN n).heap.size) := HN2
                clear c0' c1' q0' q1' q2' q3' HD2 HB2 HK2 HN2 HS2
                generalize w2.drewN n = w2b at *
                have hR := HR5.out
                by_cases hml : most ≤ l.length
                · rw [if_pos hml] at hR
                  subst hR
                  have e1 : (most : Int) ≤ (l.length : Int) := by omega
                  go_wp2
                  go_quiet (fail)
                  go_wp2
                  go_ret2
                  exact ⟨_, rfl, dagV_drawn HD4.out ⟨_, rfl⟩, below_drawn HB4.out ⟨_, rfl⟩, HK4.out.drawn ⟨_, rfl⟩, .inl rfl⟩
                · rw [if_neg hml] at hR
                  subst hR
                  have e1 : ¬ (most : Int) ≤ (l.length : Int) := by omega
                  clear HR5
                  go_wp2
                  go_quiet (fail)
                  have HD3 := hide (dagV_drawn HD4.out ⟨nq, rfl⟩)
                  have HB3 := hide (below_drawn HB4.out ⟨nq, rfl⟩)
                  have HK3 := hide (HK4.out.drawn ⟨nq, rfl⟩)
                  have c1' : (w2b.drewN nq).cell? ⟨g, 1, none⟩ = some (.slice A l.length c) := b1
                  have q0' : (w2b.drewN nq).cell? ⟨nb, 0, none⟩ = some (.int .i64 a) := b2
                  have q1' : (w2b.drewN nq).cell? ⟨nb, 1, none⟩ = some (.int .i64 x) := b3
                  have q2' : (w2b.drewN nq).cell? ⟨nb, 2, none⟩ = some (.int .i64 y) := b4
                  have q3' : (w2b.drewN nq).cell? ⟨nb, 3, none⟩ = some (.int .i64 z) := b5
                  have HN3 : Hid (g < (w2b.drewN nq).heap.size ∧ nb < (w2b.drewN nq).heap.size) := HN4
                  clear b0 b1 b2 b3 b4 b5 HD4 HB4 HK4 HN4
                  generalize w2b.drewN nq = w3 at *
                  obtain ⟨i0, hi0, hz0, hz1, hz2⟩ := info_parts infoBr
                  have Hi := hide hi0
                  have Hz0 := hide hz0
                  have Hz1 := hide hz1
                  have Hz2 := hide hz2
                  clear hi0 hz0 hz1 hz2
                  obtain ⟨g1, g2, g3, g4, g5⟩ := HD3.out
                  have HG1 := hide g1
                  have HOW : Hid ((w3.drew.alloc (.cells #[.int .i64 a, .int .i64 x, .int .i64 y, .int .i64 z] 57)).ownsRow lo 57 4 (.slice A l.length c) l.length (cells4 l)) := hide (World.ownsRow.alloc (w := w3.drew) g2 _)
                  have HLO : Hid (lo ≤ w3.heap.size) := hide (by have := HN3.out; omega)
                  have HGL := hide g3
                  have h65 : (w3.alloc (.cells #[.int .i64 a, .int .i64 x, .int .i64 y, .int .i64 z] 57)).cell? ⟨g, 1, none⟩ = some (.slice A l.length c) := (World.cell?_of_block (heap_alloc_old w3 _ HN3.out.1)).trans c1'
                  have HG2 : Hid ((w3.drew.alloc (.cells #[.int .i64 a, .int .i64 x, .int .i64 y, .int .i64 z] 57)).heap[g]? = some (.cells #[.int .i64 (most : Nat), .slice A l.length c] 66 (0, 0))) := hide ((heap_alloc_old w3.drew _ HN3.out.1).trans g1)
                  have HNE : Hid (some g ≠ Value.ownBlock (.slice A l.length c)) := hide (own_block_ne g2 g1 (by decide))
                  have HKA : Hid (∀ (w4 : World) u, (w3.drew.alloc (.cells #[.int .i64 a, .int .i64 x, .int .i64 y, .int .i64 z] 57)).grownBy w4 (Value.ownBlock (.slice A l.length c)) → KeepV g (.slice A l.length c) w (w4.setCell ⟨g, 1, none⟩ u)) := hide (fun w4 u hb => HK3.out.trans (keepV_app hb))
                  have HKS : Hid (w.heap.size ≤ (w3.drew.alloc (.cells #[.int .i64 a, .int .i64 x, .int .i64 y, .int .i64 z] 57)).heap.size) := hide (by have := HK3.out.1; simp; omega)
                  have HO1 : Hid (∀ u ∈ [Value.int .i64 a, .int .i64 x, .int .i64 y, .int .i64 z], u.oneCell' = true) := hide (by intro u hu; simp at hu; rcases hu with rfl | rfl | rfl | rfl <;> rfl)
                  have HQ1 : Hid (l.length + 1 ≤ maxLen) := hide (by unfold maxLen; omega)
                  have HQ2 : Hid ((l.length + 1) * 32 ≤ 140737488355328) := hide (by omega)
                  have HQ3 : Hid (lo ≤ (w3.drew.alloc (.cells #[.int .i64 a, .int .i64 x, .int .i64 y, .int .i64 z] 57)).heap.size) := hide (by have := HLO.out; simp; omega)
                  have HSZ : Hid (g < (w3.drew.alloc (.cells #[.int .i64 a, .int .i64 x, .int .i64 y, .int .i64 z] 57)).heap.size) := hide (by have := HN3.out; simp; omega)
                  clear g1 g2 g3 g4 g5 HD3
                  go_wp2
                  go_region_law
                    ((refine step_app _ rfl (.tmp 103) (.tmp 105) 64 rfl lo 57 i0 (.agg #[.int .i64 0, .int .i64 0, .int .i64 0, .int .i64 0]) 4 32 Try.underlying64 Hi.out Hz0.out Hz1.out Hz2.out rfl (by decide) (.slice A l.length c) l.length (cells4 l) rfl HOW.out (w3.drew.heap.size + 1) (some ⟨w3.heap.size, 0, none⟩) 1 1 [.int .i64 a, .int .i64 x, .int .i64 y, .int .i64 z] rfl rfl (Sl.laid w3.drew _ _ _ _ rfl) HO1.out HQ1.out HQ2.out HQ3.out ?_
                      intro v4 w4 hownA hgA hatA
                      obtain ⟨A4, c4, rfl, hc4, hsl4, _⟩ := own_slice hownA
                      have hg4 : w4.heap[g]? = some (.cells #[.int .i64 (most : Nat), .slice A l.length c] 66 (0, 0)) := (hgA.block g HSZ.out HNE.out).trans HG2.out
                      have hfz : w4.frozen? ⟨g, 1, none⟩ = false := frozen_of_row w4 g 1 _ _ hg4
                      have hcl : w4.cell? ⟨g, 1, none⟩ = some (.slice A l.length c) := by simp [World.cell?, hg4]))
                  all_goals
                    have hset := heap_setCell_same w4 g 1 _ _ (.slice A4 (l.length + 1) c4) hg4
                    have hownB := own_set_other (j := 1) (u := .slice A4 (l.length + 1) c4) hownA hg4 (by decide)
                    have hbA : Below lo (w3.drew.alloc (.cells #[.int .i64 a, .int .i64 x, .int .i64 y, .int .i64 z] 57)) w4 := own_below HOW.out (Below.refl _ _) hgA (Nat.le_refl _) HQ3.out
                    have HF : Hid (DagV 66 (w4.setCell ⟨g, 1, none⟩ (.slice A4 (l.length + 1) c4)) lo g most (l ++ [(a, x, y, z)]) (.slice A4 (l.length + 1) c4)) := hide ⟨hset, by
                        rw [cells4_append, show (l ++ [(a, x, y, z)]).length = l.length + 1 by simp]
                        exact hownB, HGL.out, by simp; omega, hm20⟩
                    have HFB : Hid (Below lo w (w4.setCell ⟨g, 1, none⟩ (.slice A4 (l.length + 1) c4))) := hide (((((HB3.out.drew).alloc HLO.out _).trans hbA)).setCell HGL.out _)
                    have HFK : Hid (KeepV g (.slice A l.length c) w (w4.setCell ⟨g, 1, none⟩ (.slice A4 (l.length + 1) c4))) := hide (HKA.out w4 _ hgA)
                    have HFN : Hid ((Value.slice A4 (l.length + 1) c4).ownBlock = (Value.slice A l.length c).ownBlock ∨ ∀ k, (Value.slice A4 (l.length + 1) c4).ownBlock = some k → w.heap.size ≤ k) := hide (by
                      rcases hatA with h | h
                      · exact .inl h
                      · refine .inr fun k hk => ?_
                        rw [h] at hk
                        injection hk with hk
                        rw [← hk]
                        exact HKS.out)
                    have d1 : (w4.setCell ⟨g, 1, none⟩ (.slice A4 (l.length + 1) c4)).cell? ⟨g, 1, none⟩ = some (.slice A4 (l.length + 1) c4) := World.cell?_setCell_same _ _ _ hcl
                    clear hset hownB hbA hownA hgA hatA hsl4 hg4 hcl hfz c1' q0' q1' q2' q3' h65 HOW HG1 HG2 HKA
                    generalize w4.setCell ⟨g, 1, none⟩ (.slice A4 (l.length + 1) c4) = w5 at *
                    have hw4 : IntKind.i64.wrap (l.length : Int) = (l.length : Int) := IntWalk.i64_in _ (by omega)
                    have hw5 : wrap64 ((l.length : Int) + 1 - 1) = (l.length : Int) := by rw [IntWalk.wrap64_in _ ⟨by omega, by omega⟩]; omega
                    have hw6 : wrap64 (l.length : Int) = (l.length : Int) := IntWalk.wrap64_in _ ⟨by omega, by omega⟩
                    go_wp2
                    go_ret2
                    exact ⟨_, rfl, HF.out, HFB.out, HFK.out, HFN.out⟩

end Go.Proofs.Ytinlnfhicnejmaa
