/-
  CONTRACT OF Dag.Make.
-/
import Derived.Test.YtinlnfhicnejmaaDagMem
import Derived.Deep.RegionLaw
namespace Go.Proofs.Ytinlnfhicnejmaa
open Go.RowKit
set_option linter.unusedVariables false

theorem infoBr : (Try.prog.info? 57).map (fun i => (i.zero, i.size, i.bytes)) = some (some (.agg #[.int .i64 0, .int .i64 0, .int .i64 0, .int .i64 0]), 4, 32) := by kernel_rfl
/-- A world of a class. -/
structure In (C : World → Prop) where
  w : World
  h : C w
/-- A drawn region whose operations yield the same values in every world of a class, which every call keeps. -/
theorem wp_region_in {P : Program} {C : World → Prop} {id : Nat} {Q : Exit → Act → World → Prop} {a : Act} {w : World} {l : List Oper} (hm : P.follows .mixedOrders = true) (hB : Region.lexB .any l.toArray = true) (hC : C w.drew)
    (h : wpQuiet P l.toArray (fun w' => ∃ p : In C, w' = p.w) (fun a' => ∀ w', C w' → Q .normal a' w') l a) : (Code.region id l.toArray true).wp P Q a w := by
  refine wp_region_quiet (C := fun w' => ∃ p : In C, w' = p.w) hm hB ⟨⟨w.drew, hC⟩, rfl⟩ ?_
  have e : (fun a' => ∀ w', (∃ p : In C, w' = p.w) → Q .normal a' w') = fun a' => ∀ w', C w' → Q .normal a' w' := by
    funext a'
    exact propext ⟨fun g w' hb => g w' ⟨⟨w', hb⟩, rfl⟩, fun g w' ⟨p, hp⟩ => hp ▸ g p.w p.h⟩
  rw [e]
  simpa using h
theorem in_call {P : Program} {C : World → Prop} {p : In C} {f : FuncId} {args : Array Value} {v : Value} (h : ∀ w', C w' → Calls P f args w' fun e w'' => e = .returned v ∧ C w'') :
    Calls P f args p.w fun e w'' => e = .returned v ∧ ∃ q : In C, w'' = q.w :=
  (h p.w p.h).mono fun _ w'' k => ⟨k.1, ⟨w'', k.2⟩, rfl⟩
/-- The worlds behind one. -/
def Aft (w : World) (w' : World) : Prop := Below w.heap.size w w'
theorem aft_drew (w : World) : Aft w w.drew := (Below.refl _ _).drew
instance (w : World) : Nonempty (In (Aft w)) := ⟨⟨w, Below.refl _ _⟩⟩
/-- An owned row in a block that a store does not touch. -/
theorem own_set_other {w : World} {B : Nat} {e t : TypeId} {size n g j : Nat} {v u : Value} {xs : List Value} {cs : Array Value} {fr : Nat × Nat} (h : w.ownsRow B e size v n xs) (hg : w.heap[g]? = some (.cells cs t fr)) (hne : t ≠ e) : (w.setCell ⟨g, j, none⟩ u).ownsRow B e size v n xs := by
  refine ⟨h.1, ?_⟩
  rcases h.2 with ⟨h1, h2⟩ | ⟨g', cap, cur, h1, h2, h3, h4⟩
  · exact .inl ⟨h1, h2⟩
  · refine .inr ⟨g', cap, cur, h1, h2, ?_, h4⟩
    rw [heap_setCell_other w _ _ _ ?_]
    · exact h3
    · rintro rfl
      rw [h3] at hg
      injection hg with hg
      injection hg with _ hg _
      exact hne hg.symm
theorem own_block_ne {w : World} {B : Nat} {e t : TypeId} {size n g : Nat} {v : Value} {xs : List Value} {cs : Array Value} {fr : Nat × Nat} (h : w.ownsRow B e size v n xs) (hg : w.heap[g]? = some (.cells cs t fr)) (hne : t ≠ e) : some g ≠ v.ownBlock := by
  rcases h.2 with ⟨rfl, _⟩ | ⟨g', cap, cur, rfl, _, h3, _⟩
  · intro h; cases h
  · intro h
    injection h with h
    subst h
    rw [h3] at hg
    injection hg with hg
    injection hg with _ hg _
    exact hne hg.symm
/-- Are the ways so far the first one? -/
def sameK (x y z : Int) (k : Nat) : Bool := (decide (k < 2) || decide (y = x)) && (decide (k < 3) || decide (z = x))
/-- The k-th way is looked at. -/
def MakeRel (w1 : World) (l : List Br) (a x y z : Int) (s i : Value) (wr : World) : Prop :=
  ∃ k : Nat, k ≤ 3 ∧ i = .int .i64 k ∧ s = .bool (sameK x y z k) ∧ w1 = wr ∧ (1 ≤ k → mayP l a x = true) ∧ (2 ≤ k → mayP l a y = true) ∧ (3 ≤ k → mayP l a z = true)
/-- What Make's contract says. -/
def MakePost (lo g most : Nat) (w : World) (r : Int × Int × List Br) (e : Ending) (w' : World) : Prop :=
  e = .returned (.tuple #[.int .i64 r.1, .int .i64 r.2.1]) ∧ Dags w' lo g most r.2.2 ∧ Below lo w w'
set_option maxHeartbeats 4000000 in
set_option maxRecDepth 20000 in
theorem make_any (lo g most : Nat) (l : List Br) (a x y z : Int) (w : World) (hlo : lo ≤ w.heap.size) (h : Dags w lo g most l) :
    Calls Try.prog 32 #[.pointer (some ⟨g, 0, none⟩), .agg #[.int .i64 a, .int .i64 x, .int .i64 y, .int .i64 z]] w (MakePost lo g most w (makeP most l (a, x, y, z))) := by
  have hnew := below_new w (.cells #[.int .i64 a, .int .i64 x, .int .i64 y, .int .i64 z] 57)
  have z0 := new_cell w #[.int .i64 a, .int .i64 x, .int .i64 y, .int .i64 z] 57 (0, 0) 0 _ rfl
  have z1 := new_cell w #[.int .i64 a, .int .i64 x, .int .i64 y, .int .i64 z] 57 (0, 0) 1 _ rfl
  have z2 := new_cell w #[.int .i64 a, .int .i64 x, .int .i64 y, .int .i64 z] 57 (0, 0) 2 _ rfl
  have z3 := new_cell w #[.int .i64 a, .int .i64 x, .int .i64 y, .int .i64 z] 57 (0, 0) 3 _ rfl
  have HD1 := hide (dags_below h hnew)
  have HB1 := hide (hnew.mono hlo)
  obtain ⟨R, hR⟩ : ∃ R, R = makeP most l (a, x, y, z) := ⟨_, rfl⟩
  rw [← hR]
  unfold makeP at hR
  simp only at hR
  clear h hnew
  by_cases ha : a < 0 ∨ 64 ≤ a
  · rw [if_pos ha] at hR
    subst hR
    rcases ha with ha | ha
    · go_enter Try.func32, Try.ntmps32
      go_wp2
      go_ret2
      exact ⟨rfl, HD1.out, HB1.out⟩
    · have ha' : ¬ a < 0 := by omega
      go_enter Try.func32, Try.ntmps32
      go_wp2
      go_ret2
      exact ⟨rfl, HD1.out, HB1.out⟩
  · rw [if_neg ha] at hR
    have a1 : ¬ a < 0 := fun h => ha (.inl h)
    have a2 : ¬ 64 ≤ a := fun h => ha (.inr h)
    have HRR := hide hR
    clear hR ha
    have j0 : ∀ w : World, (Instr.index 55 (.agg #[.int .i64 x, .int .i64 y, .int .i64 z]) (.int .i64 0)).run Try.prog w = .ok (.int .i64 x) w := fun _ => by kernel_rfl
    have j1 : ∀ w : World, (Instr.index 55 (.agg #[.int .i64 x, .int .i64 y, .int .i64 z]) (.int .i64 1)).run Try.prog w = .ok (.int .i64 y) w := fun _ => by kernel_rfl
    have j2 : ∀ w : World, (Instr.index 55 (.agg #[.int .i64 x, .int .i64 y, .int .i64 z]) (.int .i64 2)).run Try.prog w = .ok (.int .i64 z) w := fun _ => by kernel_rfl
    go_enter Try.func32, Try.ntmps32
    go_wp2
    go_loopw [6, 20] (fun s i wr => MakeRel (w.alloc (.cells #[.int .i64 a, .int .i64 x, .int .i64 y, .int .i64 z] 57)) l a x y z s i wr) (fun _ i _ => 3 - (intOf i).toNat)
    case atStart => exact ⟨0, by omega, rfl, rfl, rfl, fun h => by omega, fun h => by omega, fun h => by omega⟩
    case round =>
      obtain ⟨k, hk, rfl, rfl, rfl, m1, m2, m3⟩ := hrel
      have M1 := hide m1
      have M2 := hide m2
      have M3 := hide m3
      clear m1 m2 m3
      generalize w.alloc (.cells #[.int .i64 a, .int .i64 x, .int .i64 y, .int .i64 z] 57) = w1 at *
      generalize w.heap.size = nb at *
      obtain rfl | rfl | rfl | rfl : k = 0 ∨ k = 1 ∨ k = 2 ∨ k = 3 := by omega
      · rw [show sameK x y z 0 = true from rfl]
        go_wp2_with fail
        refine (may_any lo g most l a x _ HD1.out).mono ?_
        rintro e w' ⟨rfl, rfl⟩
        cases hm : mayP l a x
        · have hR2 := HRR.out
          rw [if_pos (by rw [hm]; simp)] at hR2
          subst hR2
          clear hm
          go_wp2
          go_ret2
          exact ⟨rfl, HD1.out, HB1.out⟩
        · have HM := hide hm
          clear hm
          go_wp2
          go_roundw
          case rel => exact ⟨1, by omega, rfl, rfl, rfl, fun _ => HM.out, fun h => by omega, fun h => by omega⟩
          case measure => simp [intOf]
      · have HM1 := hide (M1.out (by omega))
        go_wp2_with fail
        refine (may_any lo g most l a y _ HD1.out).mono ?_
        rintro e w' ⟨rfl, rfl⟩
        cases hm : mayP l a y
        · have hR2 := HRR.out
          rw [if_pos (by rw [hm]; simp)] at hR2
          subst hR2
          clear hm
          go_wp2
          go_ret2
          exact ⟨rfl, HD1.out, HB1.out⟩
        · have HM := hide hm
          clear hm
          cases hsm : sameK x y z 1
          · exact absurd hsm (by unfold sameK; simp)
          · by_cases he : y = x
            · have hs2 : sameK x y z 2 = true := by
                unfold sameK at hsm ⊢
                simp at hsm ⊢
                exact he
              have e1 : (y == x) = true := beq_iff_eq.2 he
              clear hsm he
              go_wp2
              go_roundw
              case rel => exact ⟨2, by omega, by go_num, by rw [hs2], rfl, fun _ => M1.out (by omega), fun _ => HM.out, fun h => by omega⟩
              case measure => simp [intOf]
            · have hs2 : sameK x y z 2 = false := by
                unfold sameK at hsm ⊢
                simp at hsm ⊢
                exact he
              have e1 : (y == x) = false := beq_eq_false_iff_ne.2 he
              clear hsm he
              go_wp2
              go_roundw
              case rel => exact ⟨2, by omega, by go_num, by rw [hs2], rfl, fun _ => M1.out (by omega), fun _ => HM.out, fun h => by omega⟩
              case measure => simp [intOf]
      · have HM1 := hide (M1.out (by omega))
        go_wp2_with fail
        refine (may_any lo g most l a z _ HD1.out).mono ?_
        rintro e w' ⟨rfl, rfl⟩
        cases hm : mayP l a z
        · have hR2 := HRR.out
          rw [if_pos (by rw [hm]; simp)] at hR2
          subst hR2
          clear hm
          go_wp2
          go_ret2
          exact ⟨rfl, HD1.out, HB1.out⟩
        · have HM := hide hm
          clear hm
          cases hsm : sameK x y z 2
          · have hs2 : sameK x y z 3 = false := by
              unfold sameK at hsm ⊢
              simp at hsm ⊢
              omega
            clear hsm
            go_wp2
            go_roundw
            case rel => exact ⟨3, by omega, by go_num, by rw [hs2], rfl, fun _ => M1.out (by omega), fun _ => M2.out (by omega), fun h => HM.out⟩
            case measure => simp [intOf]
          · by_cases he : z = x
            · have hs2 : sameK x y z 3 = true := by
                unfold sameK at hsm ⊢
                simp at hsm ⊢
                exact ⟨hsm, he⟩
              have e1 : (z == x) = true := beq_iff_eq.2 he
              clear hsm he
              go_wp2
              go_roundw
              case rel => exact ⟨3, by omega, by go_num, by rw [hs2], rfl, fun _ => M1.out (by omega), fun _ => M2.out (by omega), fun h => HM.out⟩
              case measure => simp [intOf]
            · have hs2 : sameK x y z 3 = false := by
                unfold sameK at hsm ⊢
                simp at hsm ⊢
                exact fun _ => he
              have e1 : (z == x) = false := beq_eq_false_iff_ne.2 he
              clear hsm he
              go_wp2
              go_roundw
              case rel => exact ⟨3, by omega, by go_num, by rw [hs2], rfl, fun _ => M1.out (by omega), fun _ => M2.out (by omega), fun h => HM.out⟩
              case measure => simp [intOf]
      · have hall : mayP l a x = true ∧ mayP l a y = true ∧ mayP l a z = true := ⟨M1.out (by omega), M2.out (by omega), M3.out (by omega)⟩
        have hR := HRR.out
        rw [if_neg (fun h => h hall)] at hR
        have hsk : sameK x y z 3 = decide (y = x ∧ z = x) := by unfold sameK; simp
        clear hall
        by_cases hs : y = x ∧ z = x
        · rw [if_pos hs] at hR
          subst hR
          rw [hsk, decide_eq_true hs]
          clear hsk hs
          go_wp2
          go_ret2
          exact ⟨rfl, HD1.out, HB1.out⟩
        · rw [if_neg hs] at hR
          rw [hsk, decide_eq_false hs]
          have HRX := hide hR
          clear hsk hs hR HRR
          have hlo1 : lo ≤ w1.heap.size := by
            have h1 := dags_lt HD1.out
            obtain ⟨_, _, _, h2, _⟩ := HD1.out
            omega
          have HI := hide (fun w' (hb : Below w1.heap.size w1 w') => (dags_below HD1.out hb))
          obtain ⟨A, c, c0, c1, hsl, hc, hlm, hm20⟩ := dags_open HD1.out
          have HX := hide (fun w' (hb : Below w1.heap.size w1 w') => index_any A c l.length l rfl a x y z w' (by omega) (sl_on hsl hb))
          have hg1 := dags_lt HD1.out
          have hnb : nb < w1.heap.size := World.block_lt_of_cell? w1 _ z0
          have p0 : ∀ p : In (Aft w1), p.w.cell? ⟨g, 1, none⟩ = some (.slice A l.length c) := fun p => (p.h.cell hg1).trans c1
          have p1 : ∀ p : In (Aft w1), p.w.cell? ⟨nb, 0, none⟩ = some (.int .i64 a) := fun p => (p.h.cell hnb).trans z0
          have p2 : ∀ p : In (Aft w1), p.w.cell? ⟨nb, 1, none⟩ = some (.int .i64 x) := fun p => (p.h.cell hnb).trans z1
          have p3 : ∀ p : In (Aft w1), p.w.cell? ⟨nb, 2, none⟩ = some (.int .i64 y) := fun p => (p.h.cell hnb).trans z2
          have p4 : ∀ p : In (Aft w1), p.w.cell? ⟨nb, 3, none⟩ = some (.int .i64 z) := fun p => (p.h.cell hnb).trans z3
          have HC := hide (⟨c0, c1, z0, z1, z2, z3⟩ : w1.cell? ⟨g, 0, none⟩ = some (.int .i64 (most : Nat)) ∧ w1.cell? ⟨g, 1, none⟩ = some (.slice A l.length c) ∧ w1.cell? ⟨nb, 0, none⟩ = some (.int .i64 a) ∧ w1.cell? ⟨nb, 1, none⟩ = some (.int .i64 x) ∧ w1.cell? ⟨nb, 2, none⟩ = some (.int .i64 y) ∧ w1.cell? ⟨nb, 3, none⟩ = some (.int .i64 z))
          have HN : Hid (g < w1.heap.size ∧ nb < w1.heap.size) := hide ⟨hg1, hnb⟩
          clear c0 c1 z0 z1 z2 z3 hsl hg1 hnb j0 j1 j2
          go_wp2
          refine wp_region_in (C := Aft w1) (by kernel_rfl) (by kernel_rfl) (aft_drew w1) ?_
          repeat (go_big_quiet_step (exact in_call fun w' hb => (HX.out w' hb).mono fun e w2 h => ⟨h.1, below_on hb h.2⟩))
          refine wpQuiet_nil ?_
          intro w2 hb2
          have hb2 : Below w1.heap.size w1 w2 := hb2
          have HD2 := hide (HI.out w2 hb2)
          have HB2 := hide (HB1.out.trans (hb2.mono hlo1))
          obtain ⟨k0, k1, k2, k3, k4, k5⟩ := HC.out
          have c0 := (hb2.cell HN.out.1).trans k0
          have c1 := (hb2.cell HN.out.1).trans k1
          have q0 := (hb2.cell HN.out.2).trans k2
          have q1 := (hb2.cell HN.out.2).trans k3
          have q2 := (hb2.cell HN.out.2).trans k4
          have q3 := (hb2.cell HN.out.2).trans k5
          have HN2 : Hid (g < w2.heap.size ∧ nb < w2.heap.size) := hide ⟨Nat.lt_of_lt_of_le HN.out.1 hb2.size, Nat.lt_of_lt_of_le HN.out.2 hb2.size⟩
          clear k0 k1 k2 k3 k4 k5 p0 p1 p2 p3 p4 hb2 HI HX HC HN HD1 HB1
          have hR := HRX.out
          clear HRX
          generalize idxP (a, x, y, z) l 0 = I at *
          by_cases hi : 0 ≤ I
          · rw [if_pos hi] at hR
            subst hR
            go_wp2
            go_ret2
            exact ⟨rfl, HD2.out, HB2.out⟩
          · rw [if_neg hi] at hR
            by_cases hml : most ≤ l.length
            · rw [if_pos hml] at hR
              subst hR
              have e1 : (most : Int) ≤ (l.length : Int) := by omega
              go_wp2
              go_quiet (fail)
              go_wp2
              go_ret2
              exact ⟨rfl, dags_drawn HD2.out ⟨_, rfl⟩, below_drawn HB2.out ⟨_, rfl⟩⟩
            · rw [if_neg hml] at hR
              subst hR
              have e1 : ¬ (most : Int) ≤ (l.length : Int) := by omega
              go_wp2
              go_quiet (fail)
              have HD3 := hide (dags_drawn HD2.out ⟨nq, rfl⟩)
              have HB3 := hide (below_drawn HB2.out ⟨nq, rfl⟩)
              have c1' : (w2.drewN nq).cell? ⟨g, 1, none⟩ = some (.slice A l.length c) := c1
              have q0' : (w2.drewN nq).cell? ⟨nb, 0, none⟩ = some (.int .i64 a) := q0
              have q1' : (w2.drewN nq).cell? ⟨nb, 1, none⟩ = some (.int .i64 x) := q1
              have q2' : (w2.drewN nq).cell? ⟨nb, 2, none⟩ = some (.int .i64 y) := q2
              have q3' : (w2.drewN nq).cell? ⟨nb, 3, none⟩ = some (.int .i64 z) := q3
              have HN3 : Hid (g < (w2.drewN nq).heap.size ∧ nb < (w2.drewN nq).heap.size) := HN2
              clear c0 c1 q0 q1 q2 q3 HD2 HB2 HN2
              generalize w2.drewN nq = w3 at *
              obtain ⟨i0, hi0, hz0, hz1, hz2⟩ := info_parts infoBr
              have Hi := hide hi0
              have Hz0 := hide hz0
              have Hz1 := hide hz1
              have Hz2 := hide hz2
              clear hi0 hz0 hz1 hz2
              obtain ⟨v0, g1, g2, g3, g4, g5⟩ := HD3.out
              have hv0 : v0 = .slice A l.length c := by
                have h := c1'
                simp [World.cell?, g1] at h
                exact h
              subst hv0
              have HG1 := hide g1
              have HOW : Hid ((w3.drew.alloc (.cells #[.int .i64 a, .int .i64 x, .int .i64 y, .int .i64 z] 57)).ownsRow lo 57 4 (.slice A l.length c) l.length (cells4 l)) := hide (World.ownsRow.alloc (w := w3.drew) g2 _)
              have HLO : Hid (lo ≤ w3.heap.size) := hide (by have := HN3.out; omega)
              have HGL := hide g3
              have h65 : (w3.alloc (.cells #[.int .i64 a, .int .i64 x, .int .i64 y, .int .i64 z] 57)).cell? ⟨g, 1, none⟩ = some (.slice A l.length c) := (World.cell?_of_block (heap_alloc_old w3 _ HN3.out.1)).trans c1'
              have HG2 : Hid ((w3.drew.alloc (.cells #[.int .i64 a, .int .i64 x, .int .i64 y, .int .i64 z] 57)).heap[g]? = some (.cells #[.int .i64 (most : Nat), .slice A l.length c] 88 (0, 0))) := hide ((heap_alloc_old w3.drew _ HN3.out.1).trans g1)
              have HNE : Hid (some g ≠ Value.ownBlock (.slice A l.length c)) := hide (own_block_ne g2 g1 (by decide))
              have HO1 : Hid (∀ u ∈ [Value.int .i64 a, .int .i64 x, .int .i64 y, .int .i64 z], u.oneCell' = true) := hide (by intro u hu; simp at hu; rcases hu with rfl | rfl | rfl | rfl <;> rfl)
              have HQ1 : Hid (l.length + 1 ≤ maxLen) := hide (by unfold maxLen; omega)
              have HQ2 : Hid ((l.length + 1) * 32 ≤ 140737488355328) := hide (by omega)
              have HQ3 : Hid (lo ≤ (w3.drew.alloc (.cells #[.int .i64 a, .int .i64 x, .int .i64 y, .int .i64 z] 57)).heap.size) := hide (by have := HLO.out; simp; omega)
              have HSZ : Hid (g < (w3.drew.alloc (.cells #[.int .i64 a, .int .i64 x, .int .i64 y, .int .i64 z] 57)).heap.size) := hide (by have := HN3.out; simp; omega)
              clear g1 g2 g3 g4 g5 HD3
              go_wp2
              go_region_law
                ((refine step_app _ rfl (.tmp 65) (.tmp 67) 64 rfl lo 57 i0 (.agg #[.int .i64 0, .int .i64 0, .int .i64 0, .int .i64 0]) 4 32 Try.underlying64 Hi.out Hz0.out Hz1.out Hz2.out rfl (by decide) (.slice A l.length c) l.length (cells4 l) rfl HOW.out (w3.drew.heap.size + 1) (some ⟨w3.heap.size, 0, none⟩) 1 1 [.int .i64 a, .int .i64 x, .int .i64 y, .int .i64 z] rfl rfl (Sl.laid w3.drew _ _ _ _ rfl) HO1.out HQ1.out HQ2.out HQ3.out ?_
                  intro v4 w4 hownA hgA hatA
                  obtain ⟨A4, c4, rfl, hc4, hsl4, _⟩ := own_slice hownA
                  have hg4 : w4.heap[g]? = some (.cells #[.int .i64 (most : Nat), .slice A l.length c] 88 (0, 0)) := (hgA.block g HSZ.out HNE.out).trans HG2.out
                  have hfz : w4.frozen? ⟨g, 1, none⟩ = false := frozen_of_row w4 g 1 _ _ hg4
                  have hcl : w4.cell? ⟨g, 1, none⟩ = some (.slice A l.length c) := by simp [World.cell?, hg4]))
              all_goals
                have hset := heap_setCell_same w4 g 1 _ _ (.slice A4 (l.length + 1) c4) hg4
                have hownB := own_set_other (j := 1) (u := .slice A4 (l.length + 1) c4) hownA hg4 (by decide)
                have hbA : Below lo (w3.drew.alloc (.cells #[.int .i64 a, .int .i64 x, .int .i64 y, .int .i64 z] 57)) w4 := own_below HOW.out (Below.refl _ _) hgA (Nat.le_refl _) HQ3.out
                have HF : Hid (Dags (w4.setCell ⟨g, 1, none⟩ (.slice A4 (l.length + 1) c4)) lo g most (l ++ [(a, x, y, z)])) := hide ⟨.slice A4 (l.length + 1) c4, hset, by
                    rw [cells4_append, show (l ++ [(a, x, y, z)]).length = l.length + 1 by simp]
                    exact hownB, HGL.out, by simp; omega, hm20⟩
                have HFB : Hid (Below lo w (w4.setCell ⟨g, 1, none⟩ (.slice A4 (l.length + 1) c4))) := hide (((((HB3.out.drew).alloc HLO.out _).trans hbA)).setCell HGL.out _)
                have d1 : (w4.setCell ⟨g, 1, none⟩ (.slice A4 (l.length + 1) c4)).cell? ⟨g, 1, none⟩ = some (.slice A4 (l.length + 1) c4) := World.cell?_setCell_same _ _ _ hcl
                clear hset hownB hbA hownA hgA hatA hsl4 hg4 hcl hfz c1' q0' q1' q2' q3' h65 HOW HG1 HG2
                generalize w4.setCell ⟨g, 1, none⟩ (.slice A4 (l.length + 1) c4) = w5 at *
                have hw4 : IntKind.i64.wrap (l.length : Int) = (l.length : Int) := IntWalk.i64_in _ (by omega)
                have hw5 : wrap64 ((l.length : Int) + 1 - 1) = (l.length : Int) := by rw [IntWalk.wrap64_in _ ⟨by omega, by omega⟩]; omega
                have hw6 : wrap64 (l.length : Int) = (l.length : Int) := IntWalk.wrap64_in _ ⟨by omega, by omega⟩
                go_wp2
                go_ret2
                exact ⟨rfl, HF.out, HFB.out⟩
end Go.Proofs.Ytinlnfhicnejmaa
