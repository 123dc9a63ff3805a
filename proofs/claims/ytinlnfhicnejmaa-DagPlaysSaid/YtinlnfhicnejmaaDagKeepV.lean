/-
  CONTRACT OF Dag.Make, the row's place in sight: so two diagrams stay apart.
-/
import Derived.Test.YtinlnfhicnejmaaDagKeep
namespace Go.Proofs.Ytinlnfhicnejmaa
open Go.RowKit
set_option linter.unusedVariables false

/-- A diagram in memory, in a block of type T, its row at v. -/
def DagV (T : TypeId) (w : World) (lo g most : Nat) (l : List Br) (v : Value) : Prop :=
  w.heap[g]? = some (.cells #[.int .i64 (most : Nat), v] T (0, 0)) ∧ w.ownsRow lo 57 4 v l.length (cells4 l) ∧ lo ≤ g ∧ l.length ≤ most ∧ most ≤ 2000
theorem DagV.dags {w : World} {lo g most : Nat} {l : List Br} {v : Value} (h : DagV 88 w lo g most l v) : Dags w lo g most l := ⟨v, h⟩
theorem dagV_lt {T : TypeId} {w : World} {lo g most : Nat} {l : List Br} {v : Value} (h : DagV T w lo g most l v) : g < w.heap.size := (Array.getElem?_eq_some_iff.1 h.1).1
theorem dagV_drawn {T : TypeId} {w w' : World} {lo g most : Nat} {l : List Br} {v : Value} (h : DagV T w lo g most l v) (hd : Drawn w w') : DagV T w' lo g most l v := by
  obtain ⟨n, rfl⟩ := hd; exact h
theorem dagV_below {T : TypeId} {w w' : World} {lo g most : Nat} {l : List Br} {v : Value} (h : DagV T w lo g most l v) (hb : Below w.heap.size w w') : DagV T w' lo g most l v :=
  ⟨(hb.block g (dagV_lt h)).trans h.1, own_below_keep h.2.1 hb, h.2.2⟩
theorem dagV_open {T : TypeId} {w : World} {lo g most : Nat} {l : List Br} {A : Option Addr} {n c : Nat} (h : DagV T w lo g most l (.slice A n c)) :
    w.cell? ⟨g, 0, none⟩ = some (.int .i64 (most : Nat)) ∧ w.cell? ⟨g, 1, none⟩ = some (.slice A n c) ∧ Sl w w.heap.size A (cells4 l) ∧ l.length ≤ c ∧ l.length ≤ most ∧ most ≤ 2000 := by
  obtain ⟨h1, h2, h3, h4, h5⟩ := h
  obtain ⟨A', c', hv, hnc, hsl, _⟩ := own_slice h2
  injection hv with e1 e2 e3
  subst e1 e3
  exact ⟨by simp [World.cell?, h1], by simp [World.cell?, h1], hsl, hnc, h4, h5⟩
/-- Memory but g and the row's own block stays. -/
def KeepV (g : Nat) (v : Value) (w w' : World) : Prop := w.heap.size ≤ w'.heap.size ∧ ∀ k, k < w.heap.size → k ≠ g → some k ≠ v.ownBlock → w'.heap[k]? = w.heap[k]?
theorem KeepV.trans {g : Nat} {v : Value} {w0 w1 w2 : World} (h : KeepV g v w0 w1) (k : KeepV g v w1 w2) : KeepV g v w0 w2 :=
  ⟨Nat.le_trans h.1 k.1, fun i h1 h2 h3 => (k.2 i (Nat.lt_of_lt_of_le h1 h.1) h2 h3).trans (h.2 i h1 h2 h3)⟩
theorem keepV_below (g : Nat) (v : Value) {w w' : World} (h : Below w.heap.size w w') : KeepV g v w w' := ⟨h.size, fun i h1 _ _ => h.block i h1⟩
theorem KeepV.drawn {g : Nat} {v : Value} {w0 w1 w2 : World} (h : KeepV g v w0 w1) (k : Drawn w1 w2) : KeepV g v w0 w2 := by
  obtain ⟨n, rfl⟩ := k; exact h
theorem keepV_app {w3 w4 : World} {g : Nat} {o : Obj} {u v : Value} (hb : (w3.drew.alloc o).grownBy w4 v.ownBlock) : KeepV g v w3 (w4.setCell ⟨g, 1, none⟩ u) := by
  have hs : w3.heap.size ≤ (w3.drew.alloc o).heap.size := by simp
  refine ⟨?_, fun k h1 h2 h3 => ?_⟩
  · rw [World.size_setCell]; exact Nat.le_trans hs hb.size
  · rw [heap_setCell_other w4 _ _ _ h2, hb.block k (Nat.lt_of_lt_of_le h1 hs) h3]
    exact heap_alloc_old w3.drew o h1
/-- What Make's contract says, the row's place in sight. -/
def MadeV (T : TypeId) (lo g most : Nat) (w : World) (v : Value) (r : Int × Int × List Br) (e : Ending) (w' : World) : Prop :=
  ∃ v', e = .returned (.tuple #[.int .i64 r.1, .int .i64 r.2.1]) ∧ DagV T w' lo g most r.2.2 v' ∧ Below lo w w' ∧ KeepV g v w w' ∧ (v'.ownBlock = v.ownBlock ∨ ∀ k, v'.ownBlock = some k → w.heap.size ≤ k)
set_option maxHeartbeats 4000000 in
set_option maxRecDepth 20000 in
theorem make_v (lo g most : Nat) (l : List Br) (a x y z : Int) (v : Value) (w : World) (hlo : lo ≤ w.heap.size) (h : DagV 88 w lo g most l v) :
    Calls Try.prog 32 #[.pointer (some ⟨g, 0, none⟩), .agg #[.int .i64 a, .int .i64 x, .int .i64 y, .int .i64 z]] w (MadeV 88 lo g most w v (makeP most l (a, x, y, z))) := by
  obtain ⟨A, c, hv, _⟩ := own_slice h.2.1
  subst hv
  have hnew := below_new w (.cells #[.int .i64 a, .int .i64 x, .int .i64 y, .int .i64 z] 57)
  have z0 := new_cell w #[.int .i64 a, .int .i64 x, .int .i64 y, .int .i64 z] 57 (0, 0) 0 _ rfl
  have z1 := new_cell w #[.int .i64 a, .int .i64 x, .int .i64 y, .int .i64 z] 57 (0, 0) 1 _ rfl
  have z2 := new_cell w #[.int .i64 a, .int .i64 x, .int .i64 y, .int .i64 z] 57 (0, 0) 2 _ rfl
  have z3 := new_cell w #[.int .i64 a, .int .i64 x, .int .i64 y, .int .i64 z] 57 (0, 0) 3 _ rfl
  have HD1 := hide (dagV_below h hnew)
  have HB1 := hide (hnew.mono hlo)
  have HK1 := hide (keepV_below g (.slice A l.length c) hnew)
  obtain ⟨R, hR⟩ : ∃ R, R = makeP most l (a, x, y, z) := ⟨_, rfl⟩
  rw [← hR]
  unfold makeP at hR
  simp only at hR
  clear h hnew
  by_cases ha : a < 0 ∨ 64 ≤ a
  · rw [if_pos ha] at hR
    subst hR
    rcases ha with ha | ha
    · go_enter Try.func32, Try.ntmps32
      go_wp2
      go_ret2
      exact ⟨_, rfl, HD1.out, HB1.out, HK1.out, .inl rfl⟩
    · have ha' : ¬ a < 0 := by omega
      go_enter Try.func32, Try.ntmps32
      go_wp2
      go_ret2
      exact ⟨_, rfl, HD1.out, HB1.out, HK1.out, .inl rfl⟩
  · rw [if_neg ha] at hR
    have a1 : ¬ a < 0 := fun h => ha (.inl h)
    have a2 : ¬ 64 ≤ a := fun h => ha (.inr h)
    have HRR := hide hR
    clear hR ha
    have j0 : ∀ w : World, (Instr.index 55 (.agg #[.int .i64 x, .int .i64 y, .int .i64 z]) (.int .i64 0)).run Try.prog w = .ok (.int .i64 x) w := fun _ => by kernel_rfl
    have j1 : ∀ w : World, (Instr.index 55 (.agg #[.int .i64 x, .int .i64 y, .int .i64 z]) (.int .i64 1)).run Try.prog w = .ok (.int .i64 y) w := fun _ => by kernel_rfl
    have j2 : ∀ w : World, (Instr.index 55 (.agg #[.int .i64 x, .int .i64 y, .int .i64 z]) (.int .i64 2)).run Try.prog w = .ok (.int .i64 z) w := fun _ => by kernel_rfl
    go_enter Try.func32, Try.ntmps32
    go_wp2
    go_loopw [6, 20] (fun s i wr => MakeRel (w.alloc (.cells #[.int .i64 a, .int .i64 x, .int .i64 y, .int .i64 z] 57)) l a x y z s i wr) (fun _ i _ => 3 - (intOf i).toNat)
    case atStart => exact ⟨0, by omega, rfl, rfl, rfl, fun h => by omega, fun h => by omega, fun h => by omega⟩
    case round =>
      obtain ⟨k, hk, rfl, rfl, rfl, m1, m2, m3⟩ := hrel
      have M1 := hide m1
      have M2 := hide m2
      have M3 := hide m3
      clear m1 m2 m3
      generalize w.alloc (.cells #[.int .i64 a, .int .i64 x, .int .i64 y, .int .i64 z] 57) = w1 at *
      generalize w.heap.size = nb at *
      obtain rfl | rfl | rfl | rfl : k = 0 ∨ k = 1 ∨ k = 2 ∨ k = 3 := by omega
      · rw [show sameK x y z 0 = true from rfl]
        go_wp2_with fail
        refine (may_any lo g most l a x _ HD1.out.dags).mono ?_
        rintro e w' ⟨rfl, rfl⟩
        cases hm : mayP l a x
        · have hR2 := HRR.out
          rw [if_pos (by rw [hm]; simp)] at hR2
          subst hR2
          clear hm
          go_wp2
          go_ret2
          exact ⟨_, rfl, HD1.out, HB1.out, HK1.out, .inl rfl⟩
        · have HM := hide hm
          clear hm
          go_wp2
          go_roundw
          case rel => exact ⟨1, by omega, rfl, rfl, rfl, fun _ => HM.out, fun h => by omega, fun h => by omega⟩
          case measure => simp [intOf]
      · have HM1 := hide (M1.out (by omega))
        go_wp2_with fail
        refine (may_any lo g most l a y _ HD1.out.dags).mono ?_
        rintro e w' ⟨rfl, rfl⟩
        cases hm : mayP l a y
        · have hR2 := HRR.out
          rw [if_pos (by rw [hm]; simp)] at hR2
          subst hR2
          clear hm
          go_wp2
          go_ret2
          exact ⟨_, rfl, HD1.out, HB1.out, HK1.out, .inl rfl⟩
        · have HM := hide hm
          clear hm
          cases hsm : sameK x y z 1
          · exact absurd hsm (by unfold sameK; simp)
          · by_cases he : y = x
            · have hs2 : sameK x y z 2 = true := by
                unfold sameK at hsm ⊢
                simp at hsm ⊢
                exact he
              have e1 : (y == x) = true := beq_iff_eq.2 he
              clear hsm he
              go_wp2
              go_roundw
              case rel => exact ⟨2, by omega, by go_num, by rw [hs2], rfl, fun _ => M1.out (by omega), fun _ => HM.out, fun h => by omega⟩
              case measure => simp [intOf]
            · have hs2 : sameK x y z 2 = false := by
                unfold sameK at hsm ⊢
                simp at hsm ⊢
                exact he
              have e1 : (y == x) = false := beq_eq_false_iff_ne.2 he
              clear hsm he
              go_wp2
              go_roundw
              case rel => exact ⟨2, by omega, by go_num, by rw [hs2], rfl, fun _ => M1.out (by omega), fun _ => HM.out, fun h => by omega⟩
              case measure => simp [intOf]
      · have HM1 := hide (M1.out (by omega))
        go_wp2_with fail
        refine (may_any lo g most l a z _ HD1.out.dags).mono ?_
        rintro e w' ⟨rfl, rfl⟩
        cases hm : mayP l a z
        · have hR2 := HRR.out
          rw [if_pos (by rw [hm]; simp)] at hR2
          subst hR2
          clear hm
          go_wp2
          go_ret2
          exact ⟨_, rfl, HD1.out, HB1.out, HK1.out, .inl rfl⟩
        · have HM := hide hm
          clear hm
          cases hsm : sameK x y z 2
          · have hs2 : sameK x y z 3 = false := by
              unfold sameK at hsm ⊢
              simp at hsm ⊢
              omega
            clear hsm
            go_wp2
            go_roundw
            case rel => exact ⟨3, by omega, by go_num, by rw [hs2], rfl, fun _ => M1.out (by omega), fun _ => M2.out (by omega), fun h => HM.out⟩
            case measure => simp [intOf]
          · by_cases he : z = x
            · have hs2 : sameK x y z 3 = true := by
                unfold sameK at hsm ⊢
                simp at hsm ⊢
                exact ⟨hsm, he⟩
              have e1 : (z == x) = true := beq_iff_eq.2 he
              clear hsm he
              go_wp2
              go_roundw
              case rel => exact ⟨3, by omega, by go_num, by rw [hs2], rfl, fun _ => M1.out (by omega), fun _ => M2.out (by omega), fun h => HM.out⟩
              case measure => simp [intOf]
            · have hs2 : sameK x y z 3 = false := by
                unfold sameK at hsm ⊢
                simp at hsm ⊢
                exact fun _ => he
              have e1 : (z == x) = false := beq_eq_false_iff_ne.2 he
              clear hsm he
              go_wp2
              go_roundw
              case rel => exact ⟨3, by omega, by go_num, by rw [hs2], rfl, fun _ => M1.out (by omega), fun _ => M2.out (by omega), fun h => HM.out⟩
              case measure => simp [intOf]
      · have hall : mayP l a x = true ∧ mayP l a y = true ∧ mayP l a z = true := ⟨M1.out (by omega), M2.out (by omega), M3.out (by omega)⟩
        have hR := HRR.out
        rw [if_neg (fun h => h hall)] at hR
        have hsk : sameK x y z 3 = decide (y = x ∧ z = x) := by unfold sameK; simp
        clear hall
        by_cases hs : y = x ∧ z = x
        · rw [if_pos hs] at hR
          subst hR
          rw [hsk, decide_eq_true hs]
          clear hsk hs
          go_wp2
          go_ret2
          exact ⟨_, rfl, HD1.out, HB1.out, HK1.out, .inl rfl⟩
        · rw [if_neg hs] at hR
          rw [hsk, decide_eq_false hs]
          have HRX := hide hR
          clear hsk hs hR HRR
          have hlo1 : lo ≤ w1.heap.size := by
            have h1 := dags_lt HD1.out.dags
            obtain ⟨_, _, h2, _⟩ := HD1.out
            omega
          have HI := hide (fun w' (hb : Below w1.heap.size w1 w') => (dagV_below HD1.out hb))
          obtain ⟨c0, c1, hsl, hc, hlm, hm20⟩ := dagV_open HD1.out
          have HX := hide (fun w' (hb : Below w1.heap.size w1 w') => index_any A c l.length l rfl a x y z w' (by omega) (sl_on hsl hb))
          have hg1 := dags_lt HD1.out.dags
          have hnb : nb < w1.heap.size := World.block_lt_of_cell? w1 _ z0
          have p0 : ∀ p : In (Aft w1), p.w.cell? ⟨g, 1, none⟩ = some (.slice A l.length c) := fun p => (p.h.cell hg1).trans c1
          have p1 : ∀ p : In (Aft w1), p.w.cell? ⟨nb, 0, none⟩ = some (.int .i64 a) := fun p => (p.h.cell hnb).trans z0
          have p2 : ∀ p : In (Aft w1), p.w.cell? ⟨nb, 1, none⟩ = some (.int .i64 x) := fun p => (p.h.cell hnb).trans z1
          have p3 : ∀ p : In (Aft w1), p.w.cell? ⟨nb, 2, none⟩ = some (.int .i64 y) := fun p => (p.h.cell hnb).trans z2
          have p4 : ∀ p : In (Aft w1), p.w.cell? ⟨nb, 3, none⟩ = some (.int .i64 z) := fun p => (p.h.cell hnb).trans z3
          have HC := hide (⟨c0, c1, z0, z1, z2, z3⟩ : w1.cell? ⟨g, 0, none⟩ = some (.int .i64 (most : Nat)) ∧ w1.cell? ⟨g, 1, none⟩ = some (.slice A l.length c) ∧ w1.cell? ⟨nb, 0, none⟩ = some (.int .i64 a) ∧ w1.cell? ⟨nb, 1, none⟩ = some (.int .i64 x) ∧ w1.cell? ⟨nb, 2, none⟩ = some (.int .i64 y) ∧ w1.cell? ⟨nb, 3, none⟩ = some (.int .i64 z))
          have HN : Hid (g < w1.heap.size ∧ nb < w1.heap.size) := hide ⟨hg1, hnb⟩
          clear c0 c1 z0 z1 z2 z3 hsl hg1 hnb j0 j1 j2
          go_wp2
          refine wp_region_in (C := Aft w1) (by kernel_rfl) (by kernel_rfl) (aft_drew w1) ?_
          repeat (go_big_quiet_step (exact in_call fun w' hb => (HX.out w' hb).mono fun e w2 h => ⟨h.1, below_on hb h.2⟩))
          refine wpQuiet_nil ?_
          intro w2 hb2
          have hb2 : Below w1.heap.size w1 w2 := hb2
          have HD2 := hide (HI.out w2 hb2)
          have HB2 := hide (HB1.out.trans (hb2.mono hlo1))
          have HK2 := hide (HK1.out.trans (keepV_below g (.slice A l.length c) hb2))
          obtain ⟨k0, k1, k2, k3, k4, k5⟩ := HC.out
          have c0 := (hb2.cell HN.out.1).trans k0
          have c1 := (hb2.cell HN.out.1).trans k1
          have q0 := (hb2.cell HN.out.2).trans k2
          have q1 := (hb2.cell HN.out.2).trans k3
          have q2 := (hb2.cell HN.out.2).trans k4
          have q3 := (hb2.cell HN.out.2).trans k5
          have HN2 : Hid (g < w2.heap.size ∧ nb < w2.heap.size) := hide ⟨Nat.lt_of_lt_of_le HN.out.1 hb2.size, Nat.lt_of_lt_of_le HN.out.2 hb2.size⟩
          clear k0 k1 k2 k3 k4 k5 p0 p1 p2 p3 p4 hb2 HI HX HC HN HD1 HB1 HK1
          have hR := HRX.out
          clear HRX
          generalize idxP (a, x, y, z) l 0 = I at *
          by_cases hi : 0 ≤ I
          · rw [if_pos hi] at hR
            subst hR
            go_wp2
            go_ret2
            exact ⟨_, rfl, HD2.out, HB2.out, HK2.out, .inl rfl⟩
          · rw [if_neg hi] at hR
            by_cases hml : most ≤ l.length
            · rw [if_pos hml] at hR
              subst hR
              have e1 : (most : Int) ≤ (l.length : Int) := by omega
              go_wp2
              go_quiet (fail)
              go_wp2
              go_ret2
              exact ⟨_, rfl, dagV_drawn HD2.out ⟨_, rfl⟩, below_drawn HB2.out ⟨_, rfl⟩, HK2.out.drawn ⟨_, rfl⟩, .inl rfl⟩
            · rw [if_neg hml] at hR
              subst hR
              have e1 : ¬ (most : Int) ≤ (l.length : Int) := by omega
              go_wp2
              go_quiet (fail)
              have HD3 := hide (dagV_drawn HD2.out ⟨nq, rfl⟩)
              have HB3 := hide (below_drawn HB2.out ⟨nq, rfl⟩)
              have HK3 := hide (HK2.out.drawn ⟨nq, rfl⟩)
              have c1' : (w2.drewN nq).cell? ⟨g, 1, none⟩ = some (.slice A l.length c) := c1
              have q0' : (w2.drewN nq).cell? ⟨nb, 0, none⟩ = some (.int .i64 a) := q0
              have q1' : (w2.drewN nq).cell? ⟨nb, 1, none⟩ = some (.int .i64 x) := q1
              have q2' : (w2.drewN nq).cell? ⟨nb, 2, none⟩ = some (.int .i64 y) := q2
              have q3' : (w2.drewN nq).cell? ⟨nb, 3, none⟩ = some (.int .i64 z) := q3
              have HN3 : Hid (g < (w2.drewN nq).heap.size ∧ nb < (w2.drewN nq).heap.size) := HN2
              clear c0 c1 q0 q1 q2 q3 HD2 HB2 HK2 HN2
              generalize w2.drewN nq = w3 at *
              obtain ⟨i0, hi0, hz0, hz1, hz2⟩ := info_parts infoBr
              have Hi := hide hi0
              have Hz0 := hide hz0
              have Hz1 := hide hz1
              have Hz2 := hide hz2
              clear hi0 hz0 hz1 hz2
              obtain ⟨g1, g2, g3, g4, g5⟩ := HD3.out
              have HG1 := hide g1
              have HOW : Hid ((w3.drew.alloc (.cells #[.int .i64 a, .int .i64 x, .int .i64 y, .int .i64 z] 57)).ownsRow lo 57 4 (.slice A l.length c) l.length (cells4 l)) := hide (World.ownsRow.alloc (w := w3.drew) g2 _)
              have HLO : Hid (lo ≤ w3.heap.size) := hide (by have := HN3.out; omega)
              have HGL := hide g3
              have h65 : (w3.alloc (.cells #[.int .i64 a, .int .i64 x, .int .i64 y, .int .i64 z] 57)).cell? ⟨g, 1, none⟩ = some (.slice A l.length c) := (World.cell?_of_block (heap_alloc_old w3 _ HN3.out.1)).trans c1'
              have HG2 : Hid ((w3.drew.alloc (.cells #[.int .i64 a, .int .i64 x, .int .i64 y, .int .i64 z] 57)).heap[g]? = some (.cells #[.int .i64 (most : Nat), .slice A l.length c] 88 (0, 0))) := hide ((heap_alloc_old w3.drew _ HN3.out.1).trans g1)
              have HNE : Hid (some g ≠ Value.ownBlock (.slice A l.length c)) := hide (own_block_ne g2 g1 (by decide))
              have HKA : Hid (∀ (w4 : World) u, (w3.drew.alloc (.cells #[.int .i64 a, .int .i64 x, .int .i64 y, .int .i64 z] 57)).grownBy w4 (Value.ownBlock (.slice A l.length c)) → KeepV g (.slice A l.length c) w (w4.setCell ⟨g, 1, none⟩ u)) := hide (fun w4 u hb => HK3.out.trans (keepV_app hb))
              have HKS : Hid (w.heap.size ≤ (w3.drew.alloc (.cells #[.int .i64 a, .int .i64 x, .int .i64 y, .int .i64 z] 57)).heap.size) := hide (by have := HK3.out.1; simp; omega)
              have HO1 : Hid (∀ u ∈ [Value.int .i64 a, .int .i64 x, .int .i64 y, .int .i64 z], u.oneCell' = true) := hide (by intro u hu; simp at hu; rcases hu with rfl | rfl | rfl | rfl <;> rfl)
              have HQ1 : Hid (l.length + 1 ≤ maxLen) := hide (by unfold maxLen; omega)
              have HQ2 : Hid ((l.length + 1) * 32 ≤ 140737488355328) := hide (by omega)
              have HQ3 : Hid (lo ≤ (w3.drew.alloc (.cells #[.int .i64 a, .int .i64 x, .int .i64 y, .int .i64 z] 57)).heap.size) := hide (by have := HLO.out; simp; omega)
              have HSZ : Hid (g < (w3.drew.alloc (.cells #[.int .i64 a, .int .i64 x, .int .i64 y, .int .i64 z] 57)).heap.size) := hide (by have := HN3.out; simp; omega)
              clear g1 g2 g3 g4 g5 HD3
              go_wp2
              go_region_law
                ((refine step_app _ rfl (.tmp 65) (.tmp 67) 64 rfl lo 57 i0 (.agg #[.int .i64 0, .int .i64 0, .int .i64 0, .int .i64 0]) 4 32 Try.underlying64 Hi.out Hz0.out Hz1.out Hz2.out rfl (by decide) (.slice A l.length c) l.length (cells4 l) rfl HOW.out (w3.drew.heap.size + 1) (some ⟨w3.heap.size, 0, none⟩) 1 1 [.int .i64 a, .int .i64 x, .int .i64 y, .int .i64 z] rfl rfl (Sl.laid w3.drew _ _ _ _ rfl) HO1.out HQ1.out HQ2.out HQ3.out ?_
                  intro v4 w4 hownA hgA hatA
                  obtain ⟨A4, c4, rfl, hc4, hsl4, _⟩ := own_slice hownA
                  have hg4 : w4.heap[g]? = some (.cells #[.int .i64 (most : Nat), .slice A l.length c] 88 (0, 0)) := (hgA.block g HSZ.out HNE.out).trans HG2.out
                  have hfz : w4.frozen? ⟨g, 1, none⟩ = false := frozen_of_row w4 g 1 _ _ hg4
                  have hcl : w4.cell? ⟨g, 1, none⟩ = some (.slice A l.length c) := by simp [World.cell?, hg4]))
              all_goals
                have hset := heap_setCell_same w4 g 1 _ _ (.slice A4 (l.length + 1) c4) hg4
                have hownB := own_set_other (j := 1) (u := .slice A4 (l.length + 1) c4) hownA hg4 (by decide)
                have hbA : Below lo (w3.drew.alloc (.cells #[.int .i64 a, .int .i64 x, .int .i64 y, .int .i64 z] 57)) w4 := own_below HOW.out (Below.refl _ _) hgA (Nat.le_refl _) HQ3.out
                have HF : Hid (DagV 88 (w4.setCell ⟨g, 1, none⟩ (.slice A4 (l.length + 1) c4)) lo g most (l ++ [(a, x, y, z)]) (.slice A4 (l.length + 1) c4)) := hide ⟨hset, by
                    rw [cells4_append, show (l ++ [(a, x, y, z)]).length = l.length + 1 by simp]
                    exact hownB, HGL.out, by simp; omega, hm20⟩
                have HFB : Hid (Below lo w (w4.setCell ⟨g, 1, none⟩ (.slice A4 (l.length + 1) c4))) := hide (((((HB3.out.drew).alloc HLO.out _).trans hbA)).setCell HGL.out _)
                have HFK : Hid (KeepV g (.slice A l.length c) w (w4.setCell ⟨g, 1, none⟩ (.slice A4 (l.length + 1) c4))) := hide (HKA.out w4 _ hgA)
                have HFN : Hid ((Value.slice A4 (l.length + 1) c4).ownBlock = (Value.slice A l.length c).ownBlock ∨ ∀ k, (Value.slice A4 (l.length + 1) c4).ownBlock = some k → w.heap.size ≤ k) := hide (by
                  rcases hatA with h | h
                  · exact .inl h
                  · refine .inr fun k hk => ?_
                    rw [h] at hk
                    injection hk with hk
                    rw [← hk]
                    exact HKS.out)
                have d1 : (w4.setCell ⟨g, 1, none⟩ (.slice A4 (l.length + 1) c4)).cell? ⟨g, 1, none⟩ = some (.slice A4 (l.length + 1) c4) := World.cell?_setCell_same _ _ _ hcl
                clear hset hownB hbA hownA hgA hatA hsl4 hg4 hcl hfz c1' q0' q1' q2' q3' h65 HOW HG1 HG2 HKA
                generalize w4.setCell ⟨g, 1, none⟩ (.slice A4 (l.length + 1) c4) = w5 at *
                have hw4 : IntKind.i64.wrap (l.length : Int) = (l.length : Int) := IntWalk.i64_in _ (by omega)
                have hw5 : wrap64 ((l.length : Int) + 1 - 1) = (l.length : Int) := by rw [IntWalk.wrap64_in _ ⟨by omega, by omega⟩]; omega
                have hw6 : wrap64 (l.length : Int) = (l.length : Int) := IntWalk.wrap64_in _ ⟨by omega, by omega⟩
                go_wp2
                go_ret2
                exact ⟨_, rfl, HF.out, HFB.out, HFK.out, HFN.out⟩
end Go.Proofs.Ytinlnfhicnejmaa
