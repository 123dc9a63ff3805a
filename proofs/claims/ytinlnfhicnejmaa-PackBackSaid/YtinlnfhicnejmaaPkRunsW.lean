/-
  THE WALK OF bailifflaw1.PackRuns: it returns true; only new memory is laid.
-/
import Derived.Test.YtinlnfhicnejmaaPkText2
import Derived.Test.YtinlnfhicnejmaaPkLaws
namespace Go.Proofs.Ytinlnfhicnejmaa
open Go.RowKit
set_option linter.unusedVariables false

theorem below_on {w0 w w' : World} (h : Below w0.heap.size w0 w) (k : Below w.heap.size w w') : Below w0.heap.size w0 w' := h.trans (k.mono h.size)
theorem below_drawn {B : Nat} {w0 w w' : World} (h : Below B w0 w) (k : Drawn w w') : Below B w0 w' := by
  obtain ⟨n, rfl⟩ := k; exact ⟨h.os, h.tape, h.output, h.size, h.block⟩
theorem below_new (w : World) (o : Obj) : Below w.heap.size w (w.alloc o) := (Below.refl _ _).alloc (Nat.le_refl _) _
theorem size_new (w : World) (o : Obj) : (w.alloc o).heap.size = w.heap.size + 1 := by simp
/-- The two readers of chapter 1's runs, behind their errors. -/
def Two (w0 w : World) (g1 g2 : Nat) : Prop := Below w0.heap.size w0 w ∧ (∃ lo, Reads w lo g1 [4, 97] 0 true) ∧ (∃ lo, Reads w lo g2 [128, 0] 0 true)
theorem Two.on {w0 w w' : World} {g1 g2 : Nat} (h : Two w0 w g1 g2) (k : Below w.heap.size w w') : Two w0 w' g1 g2 := by
  obtain ⟨h1, ⟨l1, h2⟩, ⟨l2, h3⟩⟩ := h
  exact ⟨below_on h1 k, ⟨l1, reads_below h2 k (reads_lt h2)⟩, ⟨l2, reads_below h3 k (reads_lt h3)⟩⟩
theorem Two.drawn {w0 w w' : World} {g1 g2 : Nat} (h : Two w0 w g1 g2) (k : Drawn w w') : Two w0 w' g1 g2 := by
  obtain ⟨h1, ⟨l1, h2⟩, ⟨l2, h3⟩⟩ := h
  exact ⟨below_drawn h1 k, ⟨l1, reads_drawn h2 k⟩, ⟨l2, reads_drawn h3 k⟩⟩
theorem numP_0 : numP 0 = [0] := by
  show vint 0 = _; rw [vint_small (by decide)]; rfl
theorem numP_m1 : numP (-1) = [1] := by
  show vint 1 = _; rw [vint_small (by decide)]; rfl
theorem numP_64 : numP 64 = [128, 1] := by
  show vint 128 = _; rw [vint_big (by decide), vint_small (by decide)]; rfl
theorem numP_2 : numP 2 = [4] := by
  show vint 4 = _; rw [vint_small (by decide)]; rfl
theorem textP_ab : textP [97, 98] = [4, 97, 98] := by
  unfold textP; rw [show (([97, 98] : List UInt8).length : Int) = 2 from rfl, numP_2]; rfl
theorem new_sl (w : World) (xs : List UInt8) : Sl (w.alloc (.cells (vbytes xs).toArray 5)) (w.alloc (.cells (vbytes xs).toArray 5)).heap.size (some ⟨w.heap.size, 0, none⟩) (vbytes xs) := by
  have h : (w.alloc (.cells (vbytes xs).toArray 5)).heap.size = w.heap.size + 1 := by simp
  rw [h]
  exact Sl.laid w _ 5 _ _ rfl
/-- Same of what a call laid and of a literal. -/
theorem same_lit {w : World} {v : Value} {n : Nat} {l m : List UInt8} {B : Nat} (h : w.ownsRow B 5 1 v l.length (vbytes l)) (hl : l.length ≤ 1000000) (hm : m.length = n) (hn : n ≤ 1000000) (a : Option Addr) (c : Nat) (hs : Sl w w.heap.size a (vbytes m)) :
    Calls Try.prog 18 #[v, .slice a n c] w (Quiet (.bool (sameB l m)) w) := by
  obtain ⟨A, c', rfl, hnc, hsl, hlo⟩ := own_slice h
  exact same_any A a c' c _ _ l m rfl hm w w.heap.size (by omega) (by omega) hsl hs
set_option maxHeartbeats 400000 in
theorem packRuns_walk (w : World) :
    Calls Try.prog 3 #[] w fun e w' => e = .returned (.bool true) ∧ Below w.heap.size w w' := by
  go_enter Try.func3, Try.ntmps3
  go_wp2_with fail
  refine (read_any (some ⟨w.heap.size, 0, none⟩) 2 2 [4, 97] rfl _ (by decide) (new_sl w [4, 97])).mono ?_
  rintro e w1 ⟨g1, rfl, hr1, hg1, hb1⟩
  have HB1 := hide (below_on (below_new w _) hb1)
  rw [size_new] at hr1 hg1
  have HR1 := hide hr1
  have HG1 := hide hg1
  clear hr1 hg1 hb1
  go_wp2_with fail
  refine (read_any (some ⟨w1.heap.size, 0, none⟩) 2 2 [128, 0] rfl _ (by decide) (new_sl w1 [128, 0])).mono ?_
  rintro e w2 ⟨g2, rfl, hr2, hg2, hb2⟩
  have HB2 := hide (below_on HB1.out (below_on (below_new w1 _) hb2))
  have HR1' := hide (reads_below HR1.out (below_on (below_new w1 _) hb2) (reads_lt HR1.out))
  rw [size_new] at hr2 hg2
  have HR2 := hide hr2
  have HG : Hid (g1 < w1.heap.size ∧ w1.heap.size + 1 ≤ g2) := hide ⟨reads_lt HR1.out, hg2⟩
  clear hr2 hg2 hb2 HR1
  go_wp2_with fail
  have ht : textAt [4, 97] 0 false 9 = ([], 0, true) := by decide
  refine (rtext_any _ g1 [4, 97] 0 false 9 w2 HR1'.out).mono ?_
  rw [ht]
  rintro e w3 ⟨rfl, hr1, hgr⟩
  have HB3 := hide (HB2.out.grown hgr HB2.out.size (fun k hk => by injection hk with hk; subst hk; have := HG1.out; omega))
  have HR2' := hide (reads_keep HR2.out hgr (reads_lt HR2.out) (by have := HG.out; omega) (.inl (by have := HG.out; omega)))
  have HR1 := hide hr1
  clear hr1 hgr HB2 HR2 HR1' ht
  go_wp2_with fail
  have ht : inAt [128, 0] 0 false (-9223372036854775808) 9223372036854775807 = (0, 0, true) := by decide
  refine (rnum_any _ g2 [128, 0] 0 false w3 HR2'.out).mono ?_
  rw [ht]
  rintro e w4 ⟨rfl, hr2, hgr⟩
  have HB4 := HB3.out.grown hgr HB3.out.size (fun k hk => by injection hk with hk; subst hk; have := HG.out; have := HG1.out; omega)
  have HR1' := reads_keep HR1.out hgr (reads_lt HR1.out) (by have := HG.out; omega) (.inr (by have := HG.out; omega))
  have HT : Hid (Two w w4 g1 g2) := hide ⟨HB4, ⟨_, HR1'⟩, ⟨_, hr2⟩⟩
  clear hr2 hgr HB4 HB3 HR2' HR1 HR1' ht HG HG1 HB1
  have HS : Hid (str [] = .string ⟨#[]⟩) := rfl
  rw [HS.out]
  clear HS
  go_wp2_with fail
  refine (num_any none 0 0 0 [] rfl w4 (by decide) (by decide) (by decide) Sl.nil).mono ?_
  rw [List.nil_append, numP_0]
  rintro e w5 ⟨v, rfl, hown, hb⟩
  have HT5 := hide (HT.out.on (below_on hb (below_new w5 (.cells (vbytes [0]).toArray 5))))
  have HO := hide (hown.alloc (.cells (vbytes [0]).toArray 5))
  clear HT hown hb
  go_wp2_with fail
  refine (same_lit HO.out (by decide) rfl (by decide) (some ⟨w5.heap.size, 0, none⟩) 1 (new_sl w5 [0])).mono ?_
  rw [show sameB ([0] : List UInt8) [0] = true from by decide]
  rintro e w6 ⟨rfl, hq⟩
  have HT := hide (HT5.out.drawn hq)
  clear HT5 HO hq
  go_wp2_with fail
  refine (num_any none 0 0 (-1) [] rfl w6 (by decide) (by decide) (by decide) Sl.nil).mono ?_
  rw [List.nil_append, numP_m1]
  rintro e w7 ⟨v, rfl, hown, hb⟩
  have HT7 := hide (HT.out.on (below_on hb (below_new w7 (.cells (vbytes [1]).toArray 5))))
  have HO := hide (hown.alloc (.cells (vbytes [1]).toArray 5))
  clear HT hown hb
  go_wp2_with fail
  refine (same_lit HO.out (by decide) rfl (by decide) (some ⟨w7.heap.size, 0, none⟩) 1 (new_sl w7 [1])).mono ?_
  rw [show sameB ([1] : List UInt8) [1] = true from by decide]
  rintro e w8 ⟨rfl, hq⟩
  have HT := hide (HT7.out.drawn hq)
  clear HT7 HO hq
  go_wp2_with fail
  refine (num_any none 0 0 64 [] rfl w8 (by decide) (by decide) (by decide) Sl.nil).mono ?_
  rw [List.nil_append, numP_64]
  rintro e w9 ⟨v, rfl, hown, hb⟩
  have HT9 := hide (HT.out.on (below_on hb (below_new w9 (.cells (vbytes [128, 1]).toArray 5))))
  have HO := hide (hown.alloc (.cells (vbytes [128, 1]).toArray 5))
  clear HT hown hb
  go_wp2_with fail
  refine (same_lit HO.out (by decide) rfl (by decide) (some ⟨w9.heap.size, 0, none⟩) 2 (new_sl w9 [128, 1])).mono ?_
  rw [show sameB ([128, 1] : List UInt8) [128, 1] = true from by decide]
  rintro e w10 ⟨rfl, hq⟩
  have HT := hide (HT9.out.drawn hq)
  clear HT9 HO hq
  go_wp2_with fail
  refine (text_any none 0 0 ⟨#[97, 98]⟩ [] rfl w10 (by decide) (by decide) Sl.nil).mono ?_
  rw [List.nil_append, show ((⟨#[97, 98]⟩ : ByteArray).data.toList) = [97, 98] from rfl, textP_ab]
  rintro e w11 ⟨v, rfl, hown, hb⟩
  have HT11 := hide (HT.out.on (below_on hb (below_new w11 (.cells (vbytes [4, 97, 98]).toArray 5))))
  have HO := hide (hown.alloc (.cells (vbytes [4, 97, 98]).toArray 5))
  clear HT hown hb
  go_wp2_with fail
  refine (same_lit HO.out (by decide) rfl (by decide) (some ⟨w11.heap.size, 0, none⟩) 3 (new_sl w11 [4, 97, 98])).mono ?_
  rw [show sameB ([4, 97, 98] : List UInt8) [4, 97, 98] = true from by decide]
  rintro e w12 ⟨rfl, hq⟩
  have HT := hide (HT11.out.drawn hq)
  clear HT11 HO hq
  go_wp2_with fail
  obtain ⟨hb, ⟨l1, hr1⟩, ⟨l2, hr2⟩⟩ := HT.out
  refine (wrong_any l1 g1 _ _ _ w12 hr1).mono ?_
  rintro e w13 ⟨rfl, rfl⟩
  rw [show wrongN true = 7 from rfl]
  go_wp2_with fail
  refine (wrong_any l2 g2 _ _ _ w12 hr2).mono ?_
  rintro e w13 ⟨rfl, rfl⟩
  rw [show wrongN true = 7 from rfl]
  go_wp2_with fail
  refine (at_any l1 g1 _ _ _ w12 hr1).mono ?_
  rintro e w13 ⟨rfl, rfl⟩
  go_wp2_with fail
  refine (at_any l2 g2 _ _ _ w12 hr2).mono ?_
  rintro e w13 ⟨rfl, rfl⟩
  go_wp2
  go_ret
  exact ⟨rfl, hb⟩
end Go.Proofs.Ytinlnfhicnejmaa
