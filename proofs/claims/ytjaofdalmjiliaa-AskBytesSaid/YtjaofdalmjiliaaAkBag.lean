/-
  CONTRACTS OF value.Bag AND the document's Bag: both tell bagB; new memory is laid.
-/
import Derived.Test.YtjaofdalmjiliaaAkRight
import Derived.Test.YtjaofdalmjiliaaIn
namespace Go.Proofs.Ytjaofdalmjiliaa
open Go.RowKit
set_option linter.unusedVariables false

/-- What is left to be looked at. -/
def BagRel (l : List V3) (k : Nat) : Prop := ∀ (h : 0 < l.length), bagFrom l[0].1 l = bagFrom l[0].1 (l.drop k)
theorem bag_head {l : List V3} (h : 0 < l.length) : bagB l = (bagFrom l[0].1 l && decide (l.length ≤ 16)) := by
  unfold bagB
  rcases l with _ | ⟨x, l⟩
  · exact absurd h (by decide)
  · rfl
theorem bagFrom_step (q : Int) (l : List V3) (k : Nat) (h : k < l.length) : bagFrom q (l.drop k) = ((rightB l[k] && decide (l[k].1 = q)) && bagFrom q (l.drop (k + 1))) := by
  rw [List.drop_eq_getElem_cons h]
  rfl
theorem bag_go {l : List V3} {k : Nat} (h : k < l.length) (hr : BagRel l k) (h1 : rightB l[k] = true) (h2 : l[k].1 = (l[0]'(by omega)).1) : BagRel l (k + 1) := fun h0 => by
  rw [hr h0, bagFrom_step _ l k h, h1, decide_eq_true h2]
  rfl
theorem bag_stop {l : List V3} {k : Nat} (h : k < l.length) (hr : BagRel l k) (h1 : rightB l[k] = false ∨ l[k].1 ≠ (l[0]'(by omega)).1) : bagB l = false := by
  rw [bag_head (by omega), hr (by omega), bagFrom_step _ l k h]
  rcases h1 with h1 | h1
  · rw [h1]; rfl
  · rw [decide_eq_false h1, Bool.and_false]; rfl
theorem bag_end {l : List V3} (hr : BagRel l l.length) : bagB l = decide (l.length ≤ 16) := by
  rcases Nat.eq_zero_or_pos l.length with h | h
  · rcases l with _ | ⟨x, l⟩
    · rfl
    · simp at h
  · rw [bag_head h, hr h, List.drop_length]
    rfl
/-- A value's block, and what it holds behind calls. -/
theorem val_laid {wr w2 : World} {x : V3} {t : TypeId} (h : Below (wr.alloc (.cells #[.int .i64 x.1, .int .i64 x.2.1, .string x.2.2] t)).heap.size (wr.alloc (.cells #[.int .i64 x.1, .int .i64 x.2.1, .string x.2.2] t)) w2) :
    w2.cell? ⟨wr.heap.size, 0, none⟩ = some (.int .i64 x.1) ∧ w2.cell? ⟨wr.heap.size, 1, none⟩ = some (.int .i64 x.2.1) ∧ w2.cell? ⟨wr.heap.size, 2, none⟩ = some (.string x.2.2) := by
  have hg : w2.heap[wr.heap.size]? = some (.cells #[.int .i64 x.1, .int .i64 x.2.1, .string x.2.2] t (0, 0)) := (h.block _ (by simp)).trans (heap_alloc_new wr _)
  exact ⟨by simp [World.cell?, hg], by simp [World.cell?, hg], by simp [World.cell?, hg]⟩
set_option maxHeartbeats 1000000 in
theorem vbag_any (a : Option Addr) (c n : Nat) (l : List V3) (hn : l.length = n) (w : World) (hv : ∀ v ∈ l, v.2.2.size ≤ maxLen) (hl : l.length ≤ maxLen) (hs : Sl w w.heap.size a (cellsV l)) :
    Calls Try.prog 36 #[.slice a n c] w (Told (.bool (bagB l)) w) := by
  subst hn
  unfold maxLen at hl
  unfold Told
  have HS := hide hs
  have HV := hide hv
  clear hs hv
  generalize hg : w.heap.size = g at *
  go_enter Try.func36, Try.ntmps36
  go_wp2
  go_loopw [7] (fun i wr => ∃ k : Nat, k ≤ l.length ∧ i = .int .i64 k ∧ Hid (BagRel l k) ∧ Hid (Below g w wr)) (fun i _ => l.length - (intOf i).toNat)
  case atStart => exact ⟨0, by omega, rfl, hide (fun _ => rfl), hide (hg ▸ Below.refl _ _)⟩
  case round =>
    obtain ⟨k, hk, rfl, HR, HB⟩ := hrel
    by_cases hlt : k < l.length
    · obtain ⟨b, off, rfl, hb, x0, x1, x2⟩ := (HS.out.below HB.out).val hlt
      obtain ⟨b', off', e', hb', y0, y1, y2⟩ := (HS.out.below HB.out).val (show 0 < l.length by omega)
      injection e' with e'
      injection e' with e1 e2
      subst e1 e2
      have HL : Hid (∀ g, rightB l[k] = g → ((if g = true ∧ l[k].1 = (l[0]'(by omega)).1 then BagRel l (k + 1) else bagB l = false) : Prop)) := hide (fun g hg => by
        split
        · rename_i h
          exact bag_go hlt HR.out (hg.trans h.1) h.2
        · rename_i h
          refine bag_stop hlt HR.out ?_
          rcases g with _ | _
          · exact .inl hg
          · exact .inr fun h2 => h ⟨rfl, h2⟩)
      have HZ := hide (HV.out l[k] (List.getElem_mem _))
      have hbw : b < wr.heap.size := Nat.lt_of_lt_of_le hb (hg ▸ HB.out.size)
      clear y1 y2 HR
      rw [Nat.zero_mul, Nat.add_zero] at y0
      generalize (l[0]'(by omega)).1 = q at *
      generalize l[k] = x at *
      go_wp2
      have hL := val_laid (Below.refl _ (wr.alloc (.cells #[.int .i64 x.1, .int .i64 x.2.1, .string x.2.2] 35)))
      have hq : (wr.alloc (.cells #[.int .i64 x.1, .int .i64 x.2.1, .string x.2.2] 35)).cell? ⟨b, off, none⟩ = some (.int .i64 q) := ((below_new wr _).cell (p := ⟨b, off, none⟩) hbw).trans y0
      have HB1 : Hid (Below g w (wr.alloc (.cells #[.int .i64 x.1, .int .i64 x.2.1, .string x.2.2] 35))) := hide (HB.out.trans ((below_new wr _).mono (hg ▸ HB.out.size)))
      have h1 : wr.heap.size < (wr.alloc (.cells #[.int .i64 x.1, .int .i64 x.2.1, .string x.2.2] 35)).heap.size := by simp
      have h2 : b < (wr.alloc (.cells #[.int .i64 x.1, .int .i64 x.2.1, .string x.2.2] 35)).heap.size := by simp; omega
      have hgw : g ≤ wr.heap.size := hg ▸ HB.out.size
      clear x0 x1 x2 y0 HB
      generalize wr.alloc (.cells #[.int .i64 x.1, .int .i64 x.2.1, .string x.2.2] 35) = w1 at *
      generalize wr.heap.size = nb at *
      obtain ⟨z0, z1, z2⟩ := hL
      have p0 : ∀ p : In (Aft w1), p.w.cell? ⟨nb, 0, none⟩ = some (.int .i64 x.1) := fun p => (p.h.cell h1).trans z0
      have p1 : ∀ p : In (Aft w1), p.w.cell? ⟨nb, 1, none⟩ = some (.int .i64 x.2.1) := fun p => (p.h.cell h1).trans z1
      have p2 : ∀ p : In (Aft w1), p.w.cell? ⟨nb, 2, none⟩ = some (.string x.2.2) := fun p => (p.h.cell h1).trans z2
      have p3 : ∀ p : In (Aft w1), p.w.cell? ⟨b, off, none⟩ = some (.int .i64 q) := fun p => (p.h.cell h2).trans hq
      have HX := hide (fun w' (hb' : Below w1.heap.size w1 w') => (vright_any x.1 x.2.1 x.2.2 HZ.out w').mono fun e w2 (h : Told _ w' e w2) => (⟨h.1, below_on hb' h.2⟩ : e = _ ∧ Below w1.heap.size w1 w2))
      have hgz : g ≤ w1.heap.size := by omega
      have hlz : (0 : Int) < (l.length : Int) := by omega
      clear z0 z1 z2 hq h1 h2 hb hbw hb' hgw
      obtain ⟨x0, x1, x2⟩ := x
      simp only at HL p0 p1 p2 HX
      generalize rightB (x0, x1, x2) = r at *
      rcases r with _ | _
      · have HF : Hid (bagB l = false) := hide (by have := HL.out false rfl; rwa [if_neg (fun h => absurd h.1 (by decide))] at this)
        clear HL
        refine wp_region_in (C := Aft w1) (by kernel_rfl) (by kernel_rfl) (aft_drew w1) ?_
        repeat (go_big_quiet_step (exact in_call fun w' hb => HX.out w' hb))
        refine wpQuiet_nil ?_
        intro w2 hb2
        have HB2 : Hid (Below g w w2) := hide (HB1.out.trans (Below.mono (show Below w1.heap.size w1 w2 from hb2) hgz))
        clear p0 p1 p2 p3 hb2
        go_wp2
        go_ret
        exact ⟨by rw [HF.out]; rfl, HB2.out⟩
      · by_cases hk0 : x0 = q
        · have HF : Hid (BagRel l (k + 1)) := hide (by have := HL.out true rfl; rwa [if_pos ⟨rfl, hk0⟩] at this)
          have hne : (x0 != q) = false := by rw [hk0]; simp
          clear HL hk0
          refine wp_region_in (C := Aft w1) (by kernel_rfl) (by kernel_rfl) (aft_drew w1) ?_
          repeat (go_big_quiet_step (exact in_call fun w' hb => HX.out w' hb))
          refine wpQuiet_nil ?_
          intro w2 hb2
          have HB2 : Hid (Below g w w2) := hide (HB1.out.trans (Below.mono (show Below w1.heap.size w1 w2 from hb2) hgz))
          clear p0 p1 p2 p3 hb2
          go_wp2
          go_roundw
          case rel => exact ⟨k + 1, by omega, by go_num, HF, HB2⟩
          case measure => simp [intOf]; omega
        · have HF : Hid (bagB l = false) := hide (by have := HL.out true rfl; rwa [if_neg (fun h => hk0 h.2)] at this)
          have hne : (x0 != q) = true := bne_iff_ne.2 hk0
          clear HL hk0
          refine wp_region_in (C := Aft w1) (by kernel_rfl) (by kernel_rfl) (aft_drew w1) ?_
          repeat (go_big_quiet_step (exact in_call fun w' hb => HX.out w' hb))
          refine wpQuiet_nil ?_
          intro w2 hb2
          have HB2 : Hid (Below g w w2) := hide (HB1.out.trans (Below.mono (show Below w1.heap.size w1 w2 from hb2) hgz))
          clear p0 p1 p2 p3 hb2
          go_wp2
          go_ret
          exact ⟨by rw [HF.out]; rfl, HB2.out⟩
    · obtain rfl : k = l.length := by omega
      have HE := hide (bag_end HR.out)
      clear HR HS HV
      by_cases h16 : l.length ≤ 16
      · have HF : Hid (bagB l = true) := hide (by rw [HE.out, decide_eq_true h16])
        have d16 : decide ((l.length : Int) ≤ 16) = true := decide_eq_true (by omega)
        clear HE
        go_wp2
        go_ret
        exact ⟨by rw [HF.out]; rfl, HB.out⟩
      · have HF : Hid (bagB l = false) := hide (by rw [HE.out, decide_eq_false h16])
        have d16 : decide ((l.length : Int) ≤ 16) = false := decide_eq_false (by omega)
        clear HE
        go_wp2
        go_ret
        exact ⟨by rw [HF.out]; rfl, HB.out⟩
set_option maxHeartbeats 1000000 in
theorem rbag_any (a : Option Addr) (c n : Nat) (l : List V3) (hn : l.length = n) (w : World) (hv : ∀ v ∈ l, v.2.2.size ≤ maxLen) (hl : l.length ≤ maxLen) (hs : Sl w w.heap.size a (cellsV l)) :
    Calls Try.prog 38 #[.slice a n c] w (Told (.bool (bagB l)) w) := by
  subst hn
  unfold maxLen at hl
  unfold Told
  have HS := hide hs
  have HV := hide hv
  clear hs hv
  generalize hg : w.heap.size = g at *
  go_enter Try.func38, Try.ntmps38
  go_wp2
  go_loopw [7] (fun i wr => ∃ k : Nat, k ≤ l.length ∧ k ≤ 16 ∧ i = .int .i64 k ∧ Hid (BagRel l k) ∧ Hid (Below g w wr)) (fun i _ => l.length - (intOf i).toNat)
  case atStart => exact ⟨0, by omega, by omega, rfl, hide (fun _ => rfl), hide (hg ▸ Below.refl _ _)⟩
  case round =>
    obtain ⟨k, hk, hk16, rfl, HR, HB⟩ := hrel
    by_cases hlt : k < l.length
    · obtain ⟨b, off, rfl, hb, x0, x1, x2⟩ := (HS.out.below HB.out).val hlt
      obtain ⟨b', off', e', hb', y0, y1, y2⟩ := (HS.out.below HB.out).val (show 0 < l.length by omega)
      injection e' with e'
      injection e' with e1 e2
      subst e1 e2
      have HL : Hid (∀ g, rightB l[k] = g → ((if g = true ∧ l[k].1 = (l[0]'(by omega)).1 then BagRel l (k + 1) else bagB l = false) : Prop)) := hide (fun g hg => by
        split
        · rename_i h
          exact bag_go hlt HR.out (hg.trans h.1) h.2
        · rename_i h
          refine bag_stop hlt HR.out ?_
          rcases g with _ | _
          · exact .inl hg
          · exact .inr fun h2 => h ⟨rfl, h2⟩)
      have HZ := hide (HV.out l[k] (List.getElem_mem _))
      have hbw : b < wr.heap.size := Nat.lt_of_lt_of_le hb (hg ▸ HB.out.size)
      clear y1 y2 HR
      rw [Nat.zero_mul, Nat.add_zero] at y0
      generalize (l[0]'(by omega)).1 = q at *
      generalize l[k] = x at *
      go_wp2
      have hL := val_laid (Below.refl _ (wr.alloc (.cells #[.int .i64 x.1, .int .i64 x.2.1, .string x.2.2] 35)))
      have hq : (wr.alloc (.cells #[.int .i64 x.1, .int .i64 x.2.1, .string x.2.2] 35)).cell? ⟨b, off, none⟩ = some (.int .i64 q) := ((below_new wr _).cell (p := ⟨b, off, none⟩) hbw).trans y0
      have HB1 : Hid (Below g w (wr.alloc (.cells #[.int .i64 x.1, .int .i64 x.2.1, .string x.2.2] 35))) := hide (HB.out.trans ((below_new wr _).mono (hg ▸ HB.out.size)))
      have h1 : wr.heap.size < (wr.alloc (.cells #[.int .i64 x.1, .int .i64 x.2.1, .string x.2.2] 35)).heap.size := by simp
      have h2 : b < (wr.alloc (.cells #[.int .i64 x.1, .int .i64 x.2.1, .string x.2.2] 35)).heap.size := by simp; omega
      have hgw : g ≤ wr.heap.size := hg ▸ HB.out.size
      clear x0 x1 x2 y0 HB
      generalize wr.alloc (.cells #[.int .i64 x.1, .int .i64 x.2.1, .string x.2.2] 35) = w1 at *
      generalize wr.heap.size = nb at *
      obtain ⟨z0, z1, z2⟩ := hL
      have p0 : ∀ p : In (Aft w1), p.w.cell? ⟨nb, 0, none⟩ = some (.int .i64 x.1) := fun p => (p.h.cell h1).trans z0
      have p1 : ∀ p : In (Aft w1), p.w.cell? ⟨nb, 1, none⟩ = some (.int .i64 x.2.1) := fun p => (p.h.cell h1).trans z1
      have p2 : ∀ p : In (Aft w1), p.w.cell? ⟨nb, 2, none⟩ = some (.string x.2.2) := fun p => (p.h.cell h1).trans z2
      have p3 : ∀ p : In (Aft w1), p.w.cell? ⟨b, off, none⟩ = some (.int .i64 q) := fun p => (p.h.cell h2).trans hq
      have HX := hide (fun w' (hb' : Below w1.heap.size w1 w') => (rright_any x.1 x.2.1 x.2.2 HZ.out w').mono fun e w2 (h : Told _ w' e w2) => (⟨h.1, below_on hb' h.2⟩ : e = _ ∧ Below w1.heap.size w1 w2))
      have hgz : g ≤ w1.heap.size := by omega
      have hlz : (0 : Int) < (l.length : Int) := by omega
      clear z0 z1 z2 hq h1 h2 hb hbw hb' hgw
      obtain ⟨x0, x1, x2⟩ := x
      simp only at HL p0 p1 p2 HX
      generalize rightB (x0, x1, x2) = r at *
      rcases r with _ | _
      · have HF : Hid (bagB l = false) := hide (by have := HL.out false rfl; rwa [if_neg (fun h => absurd h.1 (by decide))] at this)
        clear HL
        refine wp_region_in (C := Aft w1) (by kernel_rfl) (by kernel_rfl) (aft_drew w1) ?_
        repeat (go_big_quiet_step (exact in_call fun w' hb => HX.out w' hb))
        refine wpQuiet_nil ?_
        intro w2 hb2
        have HB2 : Hid (Below g w w2) := hide (HB1.out.trans (Below.mono (show Below w1.heap.size w1 w2 from hb2) hgz))
        clear p0 p1 p2 p3 hb2
        go_wp2
        go_ret
        exact ⟨by rw [HF.out]; rfl, HB2.out⟩
      · by_cases hk0 : x0 = q
        · have hne : (x0 != q) = false := by rw [hk0]; simp
          by_cases h16 : k < 16
          · have HF : Hid (BagRel l (k + 1)) := hide (by have := HL.out true rfl; rwa [if_pos ⟨rfl, hk0⟩] at this)
            have d16 : decide ((k : Int) ≥ 16) = false := decide_eq_false (by omega)
            have d16' : decide (16 ≤ (k : Int)) = false := decide_eq_false (by omega)
            clear HL hk0
            refine wp_region_in (C := Aft w1) (by kernel_rfl) (by kernel_rfl) (aft_drew w1) ?_
            repeat (go_big_quiet_step (exact in_call fun w' hb => HX.out w' hb))
            refine wpQuiet_nil ?_
            intro w2 hb2
            have HB2 : Hid (Below g w w2) := hide (HB1.out.trans (Below.mono (show Below w1.heap.size w1 w2 from hb2) hgz))
            clear p0 p1 p2 p3 hb2
            go_wp2
            go_roundw
            case rel => exact ⟨k + 1, by omega, by omega, by go_num, HF, HB2⟩
            case measure => simp [intOf]; omega
          · have HF : Hid (bagB l = false) := hide (by rw [bag_head (by omega), decide_eq_false (by omega), Bool.and_false])
            have d16 : decide ((k : Int) ≥ 16) = true := decide_eq_true (by omega)
            have d16' : decide (16 ≤ (k : Int)) = true := decide_eq_true (by omega)
            clear HL hk0
            refine wp_region_in (C := Aft w1) (by kernel_rfl) (by kernel_rfl) (aft_drew w1) ?_
            repeat (go_big_quiet_step (exact in_call fun w' hb => HX.out w' hb))
            refine wpQuiet_nil ?_
            intro w2 hb2
            have HB2 : Hid (Below g w w2) := hide (HB1.out.trans (Below.mono (show Below w1.heap.size w1 w2 from hb2) hgz))
            clear p0 p1 p2 p3 hb2
            go_wp2
            go_ret
            exact ⟨by rw [HF.out]; rfl, HB2.out⟩
        · have HF : Hid (bagB l = false) := hide (by have := HL.out true rfl; rwa [if_neg (fun h => hk0 h.2)] at this)
          have hne : (x0 != q) = true := bne_iff_ne.2 hk0
          clear HL hk0
          refine wp_region_in (C := Aft w1) (by kernel_rfl) (by kernel_rfl) (aft_drew w1) ?_
          repeat (go_big_quiet_step (exact in_call fun w' hb => HX.out w' hb))
          refine wpQuiet_nil ?_
          intro w2 hb2
          have HB2 : Hid (Below g w w2) := hide (HB1.out.trans (Below.mono (show Below w1.heap.size w1 w2 from hb2) hgz))
          clear p0 p1 p2 p3 hb2
          go_wp2
          go_ret
          exact ⟨by rw [HF.out]; rfl, HB2.out⟩
    · obtain rfl : k = l.length := by omega
      have HE := hide (bag_end HR.out)
      clear HR HS HV
      have HF : Hid (bagB l = true) := hide (by rw [HE.out, decide_eq_true hk16])
      clear HE
      go_wp2
      go_ret
      exact ⟨by rw [HF.out]; rfl, HB.out⟩
end Go.Proofs.Ytjaofdalmjiliaa
