/-
  THE WALK OF bailifflaw16.DagPlays: it returns true; only new memory is laid.
-/
import Derived.Test.YtinlnfhicnejmaaPlaysM
import Derived.Test.YtinlnfhicnejmaaDagOnceP
import Derived.Deep.RegionHeld3
import Derived.Deep.Cut
import Derived.Deep.CutRange
import Derived.Deep.CutBlock
import Derived.Deep.DeepCutAuto
namespace Go.Proofs.Ytinlnfhicnejmaa
open Go.RowKit
set_option linter.unusedVariables false

theorem fewer_nat (p q : Nat) (P : Program) (ts : Array TypeId) (t : TypeId) (w : World) : (Builtin.min_ ts t #[.int .i64 (p : Int), .int .i64 (q : Int)]).run P w = .ok (.int .i64 ((min p q : Nat) : Int)) w := by
  simp [Builtin.min_, Builtin.min2]
  split <;> omega
theorem fewer_20 (p : Nat) (P : Program) (ts : Array TypeId) (t : TypeId) (w : World) : (Builtin.min_ ts t #[.int .i64 (p : Int), .int .i64 20]).run P w = .ok (.int .i64 ((min p 20 : Nat) : Int)) w := fewer_nat p 20 P ts t w
theorem build_none (w : World) : (Instr.build 57 #[]).run Try.prog w = .ok (.agg #[.int .i64 0, .int .i64 0, .int .i64 0, .int .i64 0]) w := by kernel_rfl
theorem build_most (q : Int) (w : World) : (Instr.build 66 #[(0, .int .i64 q)]).run Try.prog w = .ok (.agg #[.int .i64 q, .slice none 0 0]) w := by kernel_rfl
/-- A branch was asked for, and laid. -/
def AskedAt (wr : World) (v : Value) (w3 : World) : Prop := ∃ (nb : Nat) (a x y z : Int), v = .pointer (some ⟨nb, 0, none⟩) ∧ wr.heap.size ≤ nb ∧ nb < w3.heap.size ∧ Below wr.heap.size wr w3 ∧ w3.heap[nb]? = some (.cells #[.int .i64 a, .int .i64 x, .int .i64 y, .int .i64 z] 57 (0, 0))
/-- A new branch's cells, behind a call. -/
theorem laid_kept {wr w2 : World} (h : Below (wr.drew.alloc (.cells #[.int .i64 0, .int .i64 0, .int .i64 0, .int .i64 0] 57)).heap.size (wr.drew.alloc (.cells #[.int .i64 0, .int .i64 0, .int .i64 0, .int .i64 0] 57)) w2) :
    w2.cell? ⟨wr.heap.size, 0, none⟩ = some (.int .i64 0) ∧ w2.cell? ⟨wr.heap.size, 1, none⟩ = some (.int .i64 0) ∧ w2.cell? ⟨wr.heap.size, 2, none⟩ = some (.int .i64 0) ∧ w2.cell? ⟨wr.heap.size, 3, none⟩ = some (.int .i64 0) ∧
      w2.frozen? ⟨wr.heap.size, 0, none⟩ = false ∧ w2.frozen? ⟨wr.heap.size, 1, none⟩ = false ∧ w2.frozen? ⟨wr.heap.size, 2, none⟩ = false ∧ w2.frozen? ⟨wr.heap.size, 3, none⟩ = false ∧ Hid (w2.heap[wr.heap.size]? = some (.cells #[.int .i64 0, .int .i64 0, .int .i64 0, .int .i64 0] 57 (0, 0))) := by
  have hg : w2.heap[wr.heap.size]? = some (.cells #[.int .i64 0, .int .i64 0, .int .i64 0, .int .i64 0] 57 (0, 0)) := (h.block _ (by simp)).trans (heap_alloc_new wr.drew _)
  exact ⟨by simp [World.cell?, hg], by simp [World.cell?, hg], by simp [World.cell?, hg], by simp [World.cell?, hg], frozen_of_row w2 _ 0 _ _ hg, frozen_of_row w2 _ 1 _ _ hg, frozen_of_row w2 _ 2 _ _ hg, frozen_of_row w2 _ 3 _ _ hg, hide hg⟩
theorem laid_set {w2 : World} {g : Nat} {a x y z : Value} (h : w2.heap[g]? = some (.cells #[.int .i64 0, .int .i64 0, .int .i64 0, .int .i64 0] 57 (0, 0))) :
    ((((w2.setCell ⟨g, 0, none⟩ a).setCell ⟨g, 1, none⟩ x).setCell ⟨g, 2, none⟩ y).setCell ⟨g, 3, none⟩ z).heap[g]? = some (.cells #[a, x, y, z] 57 (0, 0)) :=
  heap_setCell_same _ g 3 _ _ z (heap_setCell_same _ g 2 _ _ y (heap_setCell_same _ g 1 _ _ x (heap_setCell_same _ g 0 _ _ a h)))
theorem asked_a {wr w2 : World} {a x y z : Int} (h : Below wr.heap.size wr w2) : AskedAt wr (.pointer (some ⟨w2.heap.size, 0, none⟩)) (w2.alloc (.cells #[.int .i64 a, .int .i64 x, .int .i64 y, .int .i64 z] 57)) :=
  ⟨w2.heap.size, a, x, y, z, rfl, h.size, by simp, below_on h (below_new _ _), heap_alloc_new _ _⟩
theorem asked_b {wr w2 : World} {a x y z : Int} (h : Below wr.heap.size wr w2) (hb : w2.heap[wr.heap.size]? = some (.cells #[.int .i64 0, .int .i64 0, .int .i64 0, .int .i64 0] 57 (0, 0))) :
    AskedAt wr (.pointer (some ⟨wr.heap.size, 0, none⟩)) ((((w2.setCell ⟨wr.heap.size, 0, none⟩ (.int .i64 a)).setCell ⟨wr.heap.size, 1, none⟩ (.int .i64 x)).setCell ⟨wr.heap.size, 2, none⟩ (.int .i64 y)).setCell ⟨wr.heap.size, 3, none⟩ (.int .i64 z)) := by
  have hs := laid_set (a := .int .i64 a) (x := .int .i64 x) (y := .int .i64 y) (z := .int .i64 z) hb
  exact ⟨wr.heap.size, a, x, y, z, rfl, Nat.le_refl _, (Array.getElem?_eq_some_iff.1 hs).1, (((h.setCell (Nat.le_refl _) _).setCell (Nat.le_refl _) _).setCell (Nat.le_refl _) _).setCell (Nat.le_refl _) _, hs⟩
theorem cells_at_block {w : World} {g : Nat} {a x y z : Value} (h : w.heap[g]? = some (.cells #[a, x, y, z] 57 (0, 0))) : w.cell? ⟨g, 0, none⟩ = some a ∧ w.cell? ⟨g, 1, none⟩ = some x ∧ w.cell? ⟨g, 2, none⟩ = some y ∧ w.cell? ⟨g, 3, none⟩ = some z :=
  ⟨by simp [World.cell?, h], by simp [World.cell?, h], by simp [World.cell?, h], by simp [World.cell?, h]⟩
theorem make_i64 {l : List Br} (hg : Good l) (hl : l.length ≤ 2000) (N : Nat) (b : Br) : -1048576 ≤ (makeP N l b).1 ∧ (makeP N l b).1 ≤ 2000 := by
  unfold makeP
  split
  · show (-1048576 : Int) ≤ 0 ∧ (0 : Int) ≤ 2000; decide
  · split
    · show (-1048576 : Int) ≤ 0 ∧ (0 : Int) ≤ 2000; decide
    · rename_i h2
      split
      · have h2' : mayP l b.1 b.2.1 = true := by
          rcases h : mayP l b.1 b.2.1 with _ | _
          · exact absurd (fun h' => by rw [h] at h'; exact Bool.noConfusion h'.1) h2
          · rfl
        have := may_range h2'
        simp only
        omega
      · split
        · have := idxP_lt b l 0
          simp only
          omega
        · split
          · show (-1048576 : Int) ≤ 0 ∧ (0 : Int) ≤ 2000; decide
          · simp only
            omega
/-- Behind so many of the asked branches. -/
def PlaysRel (w : World) (g g2 N : Nat) (i : Value) (wr : World) : Prop := ∃ (k : Nat) (L : List Br), k ≤ 60 ∧ i = .int .i64 k ∧ Two w g g2 N L L wr ∧ Good L
set_option maxHeartbeats 4000000 in
set_option maxRecDepth 20000 in
theorem dagPlays_walk (n0 : Int) (a1 : Option Addr) (cap1 : Nat) (l1 : List A5) (a2 : Option Addr) (cap2 : Nat) (l2 : List Int) (n3 : Int) (w : World) (lo0 : -9223372036854775808 ≤ n0) (hi0 : n0 ≤ 9223372036854775807) (hl1 : l1.length ≤ cap1) (hm1 : cap1 ≤ maxLen) (s1 : Sl w w.heap.size a1 (cells5 l1)) (hl2 : l2.length ≤ cap2) (hm2 : cap2 ≤ maxLen) (s2 : Sl w w.heap.size a2 (vints .i64 l2)) (lo3 : -9223372036854775808 ≤ n3) (hi3 : n3 ≤ 9223372036854775807) :
    Calls Try.prog 11 #[.int .i64 n0, .slice a1 l1.length cap1, .slice a2 l2.length cap2, .int .i64 n3] w fun e w' => e = .returned (.bool true) ∧ Below w.heap.size w w' := by
  unfold maxLen at hm1 hm2
  by_cases hn : n0 < 1 ∨ 2000 < n0
  · clear s1 s2 hl1 hl2 hm1 hm2
    have HN := hide (new_none n0 hn w)
    rcases hn with hn | hn
    · go_enter Try.func11, Try.ntmps11
      go_wp2_with fail
      refine HN.out.mono ?_
      rintro e w' ⟨rfl, rfl⟩
      go_wp2_with fail
      refine (dagRuns_walk w).mono ?_
      rintro e w7 ⟨rfl, hb⟩
      have HB := hide hb
      clear hb
      go_wp2
      go_ret
      exact ⟨rfl, HB.out⟩
    · have hn' : ¬ n0 < 1 := by omega
      go_enter Try.func11, Try.ntmps11
      go_wp2_with fail
      refine HN.out.mono ?_
      rintro e w' ⟨rfl, rfl⟩
      go_wp2_with fail
      refine (dagRuns_walk w).mono ?_
      rintro e w7 ⟨rfl, hb⟩
      have HB := hide hb
      clear hb
      go_wp2
      go_ret
      exact ⟨rfl, HB.out⟩
  · obtain ⟨N, rfl⟩ := Int.eq_ofNat_of_zero_le (by omega : 0 ≤ n0)
    have hN1 : 1 ≤ N := by omega
    have hN2 : N ≤ 2000 := by omega
    have e1 : ¬ (N : Int) < 1 := by omega
    have e2 : ¬ (2000 : Int) < (N : Int) := by omega
    have m1 := fewer_20 l2.length Try.prog
    have k1 : min l2.length 20 ≤ l2.length := Nat.min_le_left _ _
    have hsl : Sl w w.heap.size a2 (vints .i64 (l2.take (min l2.length 20))) := by
      have h := s2.take (min l2.length 20)
      have e : (vints .i64 l2).take (min l2.length 20) = vints .i64 (l2.take (min l2.length 20)) := by simp [vints, List.map_take]
      rwa [e] at h
    have hln : (l2.take (min l2.length 20)).length = min l2.length 20 := take_len _ _ k1
    generalize min l2.length 20 = n at *
    generalize l2.take n = ans at *
    have i1 : (0 : Int) ≤ (n : Int) := by omega
    have i2 : (n : Int) ≤ (cap2 : Int) := by omega
    have hnc : n ≤ cap2 := by omega
    have HS0 := hide s1
    have HSA := hide hsl
    have HLN := hide hln
    have j0 := build_most
    have HI3 : Hid (I64 n3) := hide ⟨lo3, by omega⟩
    clear s1 s2 hsl hln k1 hl2 hm2 hn lo0 hi0 lo3 hi3
    go_enter Try.func11, Try.ntmps11
    go_wp2_with fail
    refine (new_own N hN1 hN2 w).mono ?_
    rintro e w1 ⟨rfl, ho⟩
    have HST := hide (Two.start ho)
    clear ho
    generalize hg : w.heap.size = g at *
    generalize hg2 : w1.heap.size = g2 at *
    go_wp2
    go_loopw [12] (fun i wr => PlaysRel w g g2 N i wr) (fun i _ => 60 - (intOf i).toNat)
    case atStart => exact ⟨0, [], by omega, rfl, HST.out, good_nil⟩
    case round =>
      clear HST m1 j0
      obtain ⟨k, L, hk, rfl, htw, hgd⟩ := hrel
      have HT := hide htw
      have HGD := hide hgd
      clear htw hgd
      by_cases hlt : k < l1.length
      · by_cases h60 : k < 60
        · obtain ⟨b, off, rfl, hb, x0, x1, x2, x3, x4⟩ := HS0.out.ask5 hlt
          have hb' : b < w.heap.size := hg.symm ▸ hb
          have hk1 : IntKind.i64.wrap ((k : Int) + 1) = (k : Int) + 1 := IntWalk.i64_in _ (by omega)
          have HLL : Hid (L.length ≤ 2000) := hide HT.out.len
          generalize l1[k] = p at *
          obtain ⟨p0, p1, p2, p3, p4⟩ := p
          simp only at x0 x1 x2 x3 x4
          obtain ⟨A, c, hg2l, hcell, hslB⟩ := HT.out.cell
          have HF := hide (fun w' (hbw : Below wr.heap.size wr w') => (⟨((below_on HT.out.1 hbw).cell hb').trans x0, ((below_on HT.out.1 hbw).cell hb').trans x1, ((below_on HT.out.1 hbw).cell hb').trans x2, ((below_on HT.out.1 hbw).cell hb').trans x3, ((below_on HT.out.1 hbw).cell hb').trans x4, (hbw.cell hg2l).trans hcell⟩ : w'.cell? ⟨b, off + k * 5, none⟩ = some (.int .i64 p0) ∧ w'.cell? ⟨b, off + k * 5 + 1, none⟩ = some (.int .i64 p1) ∧ w'.cell? ⟨b, off + k * 5 + 2, none⟩ = some (.int .i64 p2) ∧ w'.cell? ⟨b, off + k * 5 + 3, none⟩ = some (.int .i64 p3) ∧ w'.cell? ⟨b, off + k * 5 + 4, none⟩ = some (.bool p4) ∧ w'.cell? ⟨g2, 1, none⟩ = some (.slice A L.length c)))
          clear x0 x1 x2 x3 x4 hb hb' hcell hslB hg2l
          go_upto_region 11 with (fail)
          go_cut [13] from 56 to 75 (fun v w3 => AskedAt wr v w3)
          case first =>
            go_region_held3 (fun w' => w'.cell? ⟨b, off + k * 5, none⟩ = some (.int .i64 p0) ∧ w'.cell? ⟨b, off + k * 5 + 1, none⟩ = some (.int .i64 p1) ∧ w'.cell? ⟨b, off + k * 5 + 2, none⟩ = some (.int .i64 p2) ∧ w'.cell? ⟨b, off + k * 5 + 3, none⟩ = some (.int .i64 p3) ∧ w'.cell? ⟨b, off + k * 5 + 4, none⟩ = some (.bool p4) ∧ w'.cell? ⟨g2, 1, none⟩ = some (.slice A L.length c))
              (first | assumption | exact HF.out _ (below_drawn (Below.refl _ _) ⟨1, rfl⟩) | exact hcA | exact HF.out _ (below_on hB2 (below_new _ _)) | exact HF.out _ (below_on (below_drawn (Below.refl _ _) ⟨1, rfl⟩) (below_new _ _)) | exact HF.out _ ((((hB2.setCell (Nat.le_refl _) _).setCell (Nat.le_refl _) _).setCell (Nat.le_refl _) _).setCell (Nat.le_refl _) _))
              ((go_at_call 37
                refine (made_any p0 p1 p2 p3 p4 L.length HLL.out _).mono ?_
                rintro e w2 ⟨a, x, y, z, rfl, hb2⟩
                have hB2 : Below wr.heap.size wr w2 := (by first | exact below_on (below_drawn (Below.refl _ _) ⟨1, rfl⟩) hb2 | exact below_on (below_on (below_drawn (Below.refl _ _) ⟨1, rfl⟩) (below_new _ _)) hb2)
                have hcA := HF.out w2 hB2
                first
                  | (have hL := laid_kept hb2; obtain ⟨f0, f1, f2, f3, f4, f5, f6, f7, HBK⟩ := hL)
                  | skip))
            · go_wp2
              go_meet
              exact asked_a hB2
            · go_wp2
              go_meet
              exact asked_b hB2 HBK.out
          case rest =>
            obtain ⟨nb, a, x, y, z, hv, h1, h2, h3, h4⟩ := hcut
            subst hv
            have HMK := hide (HT.out.make a x y z h3)
            obtain ⟨q0, q1, q2, q3⟩ := cells_at_block h4
            have HLT := hide (⟨h1, h2, h4⟩ : _ ∧ _ ∧ _)
            clear h1 h2 h3 h4 HF
            go_wp2_with fail
            refine HMK.out.mono ?_
            rintro e w4 ⟨rfl, htw4, hkp⟩
            have HT4 := hide htw4
            have h5 := (hkp nb HLT.out.1 HLT.out.2.1).trans HLT.out.2.2
            obtain ⟨q0, q1, q2, q3⟩ := cells_at_block h5
            clear hkp htw4 h5 HMK HLT
            go_wp2_with fail
            refine (HT4.out.rmake a x y z).mono ?_
            rintro e w5 ⟨rfl, htw5⟩
            have hg5 := good_make HGD.out N (a, x, y, z)
            have hi5 := make_i64 HGD.out HLL.out N (a, x, y, z)
            generalize makeP N L (a, x, y, z) = r at *
            obtain ⟨r0, r1, L'⟩ := r
            simp only at hg5 hi5 htw5
            have HT5 := hide htw5
            have HG5 := hide hg5
            have HI5 := hide hi5
            obtain ⟨A5, c5, hl5, hc5, hs5⟩ := htw5.cell
            have p1 : ∀ p : In (Aft w5), p.w.cell? ⟨g2, 1, none⟩ = some (.slice A5 L'.length c5) := fun p => (p.h.cell hl5).trans hc5
            have HC5 := hide (⟨hl5, hc5, hs5⟩ : _ ∧ _ ∧ _)
            clear htw5 hg5 hi5 hl5 hc5 hs5 HT4 HGD HT q0 q1 q2 q3
            go_wp2
            refine wp_region_in (C := Aft w5) (by kernel_rfl) (by kernel_rfl) (aft_drew w5) ?_
            repeat (go_big_quiet_step (exact in_call fun w' hb => (len_any _ g N L' w' (HT5.out.on hb).dags).mono fun e w'' h => ⟨h.1, h.2 ▸ hb⟩))
            refine wpQuiet_nil ?_
            intro w6 hb6
            have hb6 : Below w5.heap.size w5 w6 := hb6
            have HT6 := hide (HT5.out.on hb6)
            have HL6 : Hid (L'.length ≤ 2000) := hide HT6.out.len
            have hc6 := (hb6.cell HC5.out.1).trans HC5.out.2.1
            have HSB := hide ((HC5.out.2.2.below hb6).more hb6.size)
            have HLT6 : Hid (g2 < w6.heap.size) := hide (Nat.lt_of_lt_of_le HC5.out.1 hb6.size)
            clear hb6 p1 HC5 HT5
            have e3 : IntKind.i64.wrap ((L'.length : Int) - 1) = (L'.length : Int) - 1 := IntWalk.i64_in _ (by have := HL6.out; omega)
            have e4 : IntKind.i64.wrap (-1 - (k : Int)) = -1 - (k : Int) := IntWalk.i64_in _ (by omega)
            have HRS : Hid (Sl (w6.alloc (.cells #[.int .i64 r0, .int .i64 n3, .int .i64 ((L'.length : Int) - 1), .int .i64 (-1 - (k : Int))] 3)) (w6.heap.size + 1) (some ⟨w6.heap.size, 0, none⟩) (vints .i64 [r0, n3, (L'.length : Int) - 1, -1 - (k : Int)])) := hide (Sl.laid w6 _ _ _ _ rfl)
            have HRI : Hid (∀ r ∈ [r0, n3, (L'.length : Int) - 1, -1 - (k : Int)], I64 r) := hide (by
              have h1 := HI5.out
              have h2 := HL6.out
              have h3 := HI3.out
              unfold I64 at h3 ⊢
              intro r hr
              simp at hr
              omega)
            have HRL : Hid (([r0, n3, (L'.length : Int) - 1, -1 - (k : Int)] : List Int).length = 4) := hide rfl
            have HT7 := hide (HT6.out.on (below_new w6 (.cells #[.int .i64 r0, .int .i64 n3, .int .i64 ((L'.length : Int) - 1), .int .i64 (-1 - (k : Int))] 3)))
            have hc7 : (w6.alloc (.cells #[.int .i64 r0, .int .i64 n3, .int .i64 ((L'.length : Int) - 1), .int .i64 (-1 - (k : Int))] 3)).cell? ⟨g2, 1, none⟩ = some (.slice A5 L'.length c5) := ((below_new w6 _).cell HLT6.out).trans hc6
            have HC7 := hide hc7
            have HLT7 : Hid (g2 < (w6.alloc (.cells #[.int .i64 r0, .int .i64 n3, .int .i64 ((L'.length : Int) - 1), .int .i64 (-1 - (k : Int))] 3)).heap.size) := hide (by have := HLT6.out; simp; omega)
            have HSB7 := hide ((HSB.out.below (below_new w6 (.cells #[.int .i64 r0, .int .i64 n3, .int .i64 ((L'.length : Int) - 1), .int .i64 (-1 - (k : Int))] 3))).more (below_new w6 (.cells #[.int .i64 r0, .int .i64 n3, .int .i64 ((L'.length : Int) - 1), .int .i64 (-1 - (k : Int))] 3)).size)
            clear hc7 HSB HLT6 HT6
            go_wp2
            obtain ⟨w7, hw7⟩ : ∃ w7, w7 = w6.alloc (.cells #[.int .i64 r0, .int .i64 n3, .int .i64 ((L'.length : Int) - 1), .int .i64 (-1 - (k : Int))] 3) := ⟨_, rfl⟩
            have hsz7 : w6.heap.size + 1 = w7.heap.size := by rw [hw7]; simp
            rw [← hw7] at HRS HT7 HC7 HLT7 HSB7
            rw [hsz7] at HRS
            try rw [← hw7]
            generalize hrs : [r0, n3, (L'.length : Int) - 1, -1 - (k : Int)] = rs at HRS HRI HRL
            generalize w6.heap.size = nb6 at *
            clear hw7 hrs hsz7 hc6
            go_loopw [118] (fun i wx => ∃ t : Nat, t ≤ 4 ∧ i = .int .i64 t ∧ Below w7.heap.size w7 wx) (fun i _ => 4 - (intOf i).toNat)
            case atStart => exact ⟨0, by omega, rfl, Below.refl _ _⟩
            case round =>
              obtain ⟨t, ht, rfl, hbel⟩ := hrel
              have HB := hide hbel
              clear hbel
              by_cases ht4 : t < 4
              · have htl : t < rs.length := by rw [HRL.out]; exact ht4
                obtain ⟨b6, off6, hbo, hb6, hc6⟩ := HRS.out.at (i := t) (x := .int .i64 rs[t]) (by simp [vints, htl])
                injection hbo with hbo
                injection hbo with hbo1 hbo2 _
                subst hbo1 hbo2
                have hr := HRI.out rs[t] (List.getElem_mem htl)
                have hcr := (HB.out.cell hb6).trans hc6
                generalize rs[t] = r at hr hcr
                rw [Nat.zero_add] at hcr
                clear hc6 hb6 htl
                have kt : IntKind.i64.wrap ((t : Int) + 1) = (t : Int) + 1 := IntWalk.i64_in _ (by omega)
                have HTA := hide (HT7.out.on HB.out)
                have hsa : Sl w w.heap.size a2 (vints .i64 ans) := by rw [hg]; exact HSA.out
                have HSS := hide hsa
                have hr1 : -9223372036854775808 ≤ r := hr.1
                have HR1 := hide hr
                clear hsa hr
                go_wp2_with fail
                refine (HTA.out.walk HG5.out HLN.out hr1 HSS.out).mono ?_
                rintro e wa ⟨rfl, hb⟩
                have HB1 := hide (below_on HB.out hb)
                have HT1 := hide (HT7.out.on HB1.out)
                clear hb HB HTA
                go_wp2_with fail
                refine (HT1.out.rwalk HG5.out HLN.out hr1 HSS.out).mono ?_
                rintro e wb ⟨rfl, hb⟩
                have HB2 := hide (below_on HB1.out hb)
                have HT2 := hide (HT7.out.on HB2.out)
                clear hb HB1 HT1
                generalize walkP L' ans r = W1
                go_wp2_with fail
                refine (HT2.out.size HG5.out HR1.out).mono ?_
                rintro e wd ⟨rfl, hb⟩
                have HB3 := hide (below_on HB2.out hb)
                have HT3 := hide (HT7.out.on HB3.out)
                clear hb HB2 HT2
                go_wp2_with fail
                refine (HT3.out.rsize HG5.out).mono ?_
                rintro e we ⟨rfl, hb⟩
                have HB4 := hide (below_on HB3.out hb)
                have HT4 := hide (HT7.out.on HB4.out)
                clear hb HB3 HT3
                generalize sizeP L' r = W2
                by_cases hin : 0 ≤ r ∧ r < (L'.length : Int)
                · obtain ⟨q, rfl⟩ := Int.eq_ofNat_of_zero_le hin.1
                  have hq : q < L'.length := by omega
                  go_wp2_with fail
                  refine (branch_in _ g N L' q hq we HT4.out.dags).mono ?_
                  rintro e wf ⟨rfl, hb⟩
                  have HB5 := hide (below_on HB4.out hb)
                  clear hb
                  obtain ⟨bb, bo, hA5, hbb, y0, y1, y2, y3⟩ := HSB7.out.branch hq
                  subst hA5
                  generalize L'[q] = p at *
                  obtain ⟨b0, b1, b2, b3⟩ := p
                  simp only [brV] at y0 y1 y2 y3 ⊢
                  have HB6 := hide (below_on HB5.out (below_new wf (.cells #[.int .i64 b0, .int .i64 b1, .int .i64 b2, .int .i64 b3] 57)))
                  have c0 := (HB6.out.cell hbb).trans y0
                  have c1 := (HB6.out.cell hbb).trans y1
                  have c2 := (HB6.out.cell hbb).trans y2
                  have c3 := (HB6.out.cell hbb).trans y3
                  have c4 := (HB6.out.cell HLT7.out).trans HC7.out
                  have heq := eqBr (b0, b1, b2, b3) (b0, b1, b2, b3)
                  rw [decide_eq_true rfl] at heq
                  unfold brV at heq
                  simp only at heq
                  have d1 : decide (0 ≤ (q : Int)) = true := decide_eq_true hin.1
                  have d2 : decide ((q : Int) < (L'.length : Int)) = true := decide_eq_true hin.2
                  have d3 : decide (q < L'.length) = true := decide_eq_true hq
                  clear y0 y1 y2 y3 hbb hr1 hcr hin
                  go_wp2
                  go_quiet (fail)
                  go_wp2
                  go_roundw
                  case rel => exact ⟨t + 1, by omega, by go_num, below_drawn HB6.out ⟨_, rfl⟩⟩
                  case measure => simp [intOf]; omega
                · go_wp2_with fail
                  refine (branch_out _ g N L' r (by omega) we HT4.out.dags).mono ?_
                  rintro e wf ⟨rfl, hb⟩
                  have HB5 := hide (below_on HB4.out hb)
                  clear hb
                  simp only [brV]
                  have HB6 := hide (below_on HB5.out (below_new wf (.cells #[.int .i64 0, .int .i64 0, .int .i64 0, .int .i64 0] 57)))
                  have c4 := (HB6.out.cell HLT7.out).trans HC7.out
                  have heq := eqBr (0, 0, 0, 0) (0, 0, 0, 0)
                  rw [decide_eq_true rfl] at heq
                  unfold brV at heq
                  simp only at heq
                  have jz := build_none
                  by_cases hr0 : 0 ≤ r
                  · have d1 : decide (0 ≤ r) = true := decide_eq_true hr0
                    have d2 : decide (r < (L'.length : Int)) = false := decide_eq_false (by omega)
                    clear hin hr0 hr1 hcr
                    go_wp2
                    go_quiet (fail)
                    go_wp2
                    go_roundw
                    case rel => exact ⟨t + 1, by omega, by go_num, below_drawn HB6.out ⟨_, rfl⟩⟩
                    case measure => simp [intOf]; omega
                  · have d1 : decide (0 ≤ r) = false := decide_eq_false hr0
                    clear hin hr0 hr1 hcr
                    go_wp2
                    go_quiet (fail)
                    go_wp2
                    go_roundw
                    case rel => exact ⟨t + 1, by omega, by go_num, below_drawn HB6.out ⟨_, rfl⟩⟩
                    case measure => simp [intOf]; omega
              · obtain rfl : t = 4 := by omega
                have HTA := hide (HT7.out.on HB.out)
                go_wp2
                go_roundw
                case rel => exact ⟨k + 1, L', h60, by go_num, HTA.out, HG5.out⟩
                case measure => simp [intOf]; omega
        · go_wp2_with fail
          refine (dagRuns_walk wr).mono ?_
          rintro e w7 ⟨rfl, hb⟩
          have HB := hide (below_on HT.out.1 hb)
          clear hb
          go_wp2
          go_ret
          exact ⟨rfl, hg ▸ HB.out⟩
      · go_wp2_with fail
        refine (dagRuns_walk wr).mono ?_
        rintro e w7 ⟨rfl, hb⟩
        have HB := hide (below_on HT.out.1 hb)
        clear hb
        go_wp2
        go_ret
        exact ⟨rfl, hg ▸ HB.out⟩
end Go.Proofs.Ytinlnfhicnejmaa
