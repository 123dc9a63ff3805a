/-
  ORDER OF ATTRIBUTES; CONTRACTS OF cmp.Compare, cmp.Or AND ask.Put's closure.
-/
import Derived.Test.YtjaofdalmjiliaaAkSameAsks
import Derived.Deep.RegionHeld3
namespace Go.Proofs.Ytjaofdalmjiliaa
open Go.RowKit
set_option linter.unusedVariables false

theorem less_eq : ∀ (x y : List UInt8), Op.bytesLess x y = decide (x < y)
  | [], [] => by simp [Op.bytesLess]
  | [], b :: y => by simp [Op.bytesLess]
  | a :: x, [] => by simp [Op.bytesLess]
  | a :: x, b :: y => by
    rw [Op.bytesLess, less_eq x y, Bool.eq_iff_iff, decide_eq_true_iff, List.cons_lt_cons_iff]
    simp only [Bool.or_eq_true, Bool.and_eq_true, decide_eq_true_eq, beq_iff_eq]
def cmpI (a b : Int) : Int := if a < b then -1 else if b < a then 1 else 0
def cmpS (a b : ByteArray) : Int := if a.toList < b.toList then -1 else if a = b then 0 else 1
/-- How two attributes stand. -/
def cmpG (x y : Gm) : Int := if cmpI x.cat y.cat = 0 then cmpS x.name y.name else cmpI x.cat y.cat
theorem cmpI_any (a b : Int) (w : World) :
    Calls Try.prog 28 #[.int .i64 a, .int .i64 b] w fun e w' => e = .returned (.int .i64 (cmpI a b)) ∧ w = w' := by
  by_cases h1 : a < b
  · have HF : Hid (cmpI a b = -1) := hide (if_pos h1)
    go_enter Try.func28, Try.ntmps28
    go_wp2
    go_ret
    exact ⟨by rw [HF.out]; rfl, rfl⟩
  · by_cases h2 : b < a
    · have HF : Hid (cmpI a b = 1) := hide (by unfold cmpI; rw [if_neg h1, if_pos h2])
      have d2 : decide (a > b) = true := decide_eq_true h2
      go_enter Try.func28, Try.ntmps28
      go_wp2
      go_ret
      exact ⟨by rw [HF.out]; rfl, rfl⟩
    · have HF : Hid (cmpI a b = 0) := hide (by unfold cmpI; rw [if_neg h1, if_neg h2])
      have d2 : decide (a > b) = false := decide_eq_false h2
      go_enter Try.func28, Try.ntmps28
      go_wp2
      go_ret
      exact ⟨by rw [HF.out]; rfl, rfl⟩
theorem cmpS_any (a b : ByteArray) (w : World) :
    Calls Try.prog 29 #[.string a, .string b] w fun e w' => e = .returned (.int .i64 (cmpS a b)) ∧ w = w' := by
  have hl := less_eq a.toList b.toList
  have hd := str_dec a b
  by_cases h1 : a.toList < b.toList
  · have HF : Hid (cmpS a b = -1) := hide (if_pos h1)
    rw [decide_eq_true h1] at hl
    clear h1
    go_enter Try.func29, Try.ntmps29
    go_wp2
    go_ret
    exact ⟨by rw [HF.out]; rfl, rfl⟩
  · rw [decide_eq_false h1] at hl
    by_cases h2 : a = b
    · have HF : Hid (cmpS a b = 0) := hide (by unfold cmpS; rw [if_neg h1, if_pos h2])
      rw [decide_eq_true h2] at hd
      clear h1 h2
      go_enter Try.func29, Try.ntmps29
      go_wp2
      go_ret
      exact ⟨by rw [HF.out]; rfl, rfl⟩
    · have HF : Hid (cmpS a b = 1) := hide (by unfold cmpS; rw [if_neg h1, if_neg h2])
      rw [decide_eq_false h2] at hd
      clear h1 h2
      go_enter Try.func29, Try.ntmps29
      go_wp2
      go_ret
      exact ⟨by rw [HF.out]; rfl, rfl⟩
theorem or_any (a c : Int) (n : Nat) (w : World) (h0 : w.cell? ⟨n, 0, none⟩ = some (.int .i64 a)) (h1 : w.cell? ⟨n, 1, none⟩ = some (.int .i64 c)) :
    Calls Try.prog 27 #[.slice (some ⟨n, 0, none⟩) 2 2] w fun e w' => e = .returned (.int .i64 (if a = 0 then c else a)) ∧ w = w' := by
  by_cases ha : a = 0
  · rw [if_pos ha]
    by_cases hc : c = 0
    · subst ha hc
      go_enter Try.func27, Try.ntmps27
      go_wp2
      refine wp_loop_rounds 3 ?_
      rw [rounds_succ]
      go_wp2
      rw [rounds_succ]
      go_wp2
      rw [rounds_succ]
      go_wp2
      go_ret
      exact ⟨rfl, rfl⟩
    · have hb : (c != 0) = true := bne_iff_ne.2 hc
      subst ha
      go_enter Try.func27, Try.ntmps27
      go_wp2
      refine wp_loop_rounds 3 ?_
      rw [rounds_succ]
      go_wp2
      rw [rounds_succ]
      go_wp2
      go_ret
      exact ⟨rfl, rfl⟩
  · rw [if_neg ha]
    have hb : (a != 0) = true := bne_iff_ne.2 ha
    go_enter Try.func27, Try.ntmps27
    go_wp2
    refine wp_loop_rounds 3 ?_
    rw [rounds_succ]
    go_wp2
    go_ret
    exact ⟨rfl, rfl⟩
theorem two_laid (w : World) (x y : Value) (t : TypeId) : (w.alloc (.cells #[x, y] t)).cell? ⟨w.heap.size, 0, none⟩ = some x ∧ (w.alloc (.cells #[x, y] t)).cell? ⟨w.heap.size, 1, none⟩ = some y :=
  ⟨new_cell w _ _ _ 0 _ rfl, new_cell w _ _ _ 1 _ rfl⟩
theorem held_new {w w' : World} {x y x' y' : Value} (h0 : w'.cell? ⟨w.heap.size, 0, none⟩ = some x) (h1 : w'.cell? ⟨w.heap.size, 1, none⟩ = some y) (h2 : w'.cell? ⟨w.heap.size + 1, 0, none⟩ = some x') (h3 : w'.cell? ⟨w.heap.size + 1, 1, none⟩ = some y') (h4 : w.heap.size + 1 < w'.heap.size) (h5 : Below w.heap.size w w') (o : Obj) :
    (w'.alloc o).cell? ⟨w.heap.size, 0, none⟩ = some x ∧ (w'.alloc o).cell? ⟨w.heap.size, 1, none⟩ = some y ∧ (w'.alloc o).cell? ⟨w.heap.size + 1, 0, none⟩ = some x' ∧ (w'.alloc o).cell? ⟨w.heap.size + 1, 1, none⟩ = some y' ∧ w.heap.size + 1 < (w'.alloc o).heap.size ∧ Below w.heap.size w (w'.alloc o) := by
  have hb := below_new w' o
  have hl : w.heap.size < w'.heap.size := by omega
  exact ⟨(hb.cell (p := ⟨w.heap.size, 0, none⟩) hl).trans h0, (hb.cell (p := ⟨w.heap.size, 1, none⟩) hl).trans h1, (hb.cell (p := ⟨w.heap.size + 1, 0, none⟩) h4).trans h2, (hb.cell (p := ⟨w.heap.size + 1, 1, none⟩) h4).trans h3, Nat.lt_of_lt_of_le h4 hb.size, h5.alloc h5.size o⟩
theorem World.lt_of_cell {w : World} {b i : Nat} {v : Value} (h : w.cell? ⟨b, i, none⟩ = some v) : b < w.heap.size := World.block_lt_of_cell? w _ h
set_option maxHeartbeats 1000000 in
theorem cmp_any (x y : Gm) (w : World) :
    Calls Try.prog 26 #[.agg #[.int .i64 x.cat, .string x.name, .slice x.at_ x.bag.length x.cap], .agg #[.int .i64 y.cat, .string y.name, .slice y.at_ y.bag.length y.cap]] w (Told (.int .i64 (cmpG x y)) w) := by
  obtain ⟨xc, xn, xa, xcap, xb⟩ := x
  obtain ⟨yc, yn, ya, ycap, yb⟩ := y
  unfold cmpG Told
  obtain ⟨w0, hw0⟩ : ∃ w0, w0 = (w.alloc (.cells #[.int .i64 xc, .string xn, .slice xa xb.length xcap] 40)).alloc (.cells #[.int .i64 yc, .string yn, .slice ya yb.length ycap] 40) := ⟨_, rfl⟩
  have hb0 : Below w.heap.size w w0 := hw0 ▸ below_on (below_new w _) (below_new _ _)
  have hs1 : (w.alloc (.cells #[.int .i64 xc, .string xn, .slice xa xb.length xcap] 40)).heap.size = w.heap.size + 1 := by simp
  have hlt : w.heap.size < (w.alloc (.cells #[.int .i64 xc, .string xn, .slice xa xb.length xcap] 40)).heap.size := by rw [hs1]; omega
  obtain ⟨c0, c1, _⟩ := three_laid w (.int .i64 xc) (.string xn) (.slice xa xb.length xcap) 40
  obtain ⟨d0, d1, _⟩ := three_laid (w.alloc (.cells #[.int .i64 xc, .string xn, .slice xa xb.length xcap] 40)) (.int .i64 yc) (.string yn) (.slice ya yb.length ycap) 40
  have hb1 := below_new (w.alloc (.cells #[.int .i64 xc, .string xn, .slice xa xb.length xcap] 40)) (.cells #[.int .i64 yc, .string yn, .slice ya yb.length ycap] 40)
  have e0 := (hb1.cell (p := ⟨w.heap.size, 0, none⟩) hlt).trans c0
  have e1 := (hb1.cell (p := ⟨w.heap.size, 1, none⟩) hlt).trans c1
  rw [hs1] at d0 d1
  rw [← hw0] at d0 d1 e0 e1
  have HB0 := hide hb0
  clear hb0 hb1 c0 c1 hlt
  simp only
  have hor := or_any (cmpI xc yc) (cmpS xn yn) w0.heap.size (w0.alloc (.cells #[.int .i64 (cmpI xc yc), .int .i64 (cmpS xn yn)] 3)).drew (two_laid w0 _ _ _).1 (two_laid w0 _ _ _).2
  generalize (if cmpI xc yc = 0 then cmpS xn yn else cmpI xc yc) = z at *
  have HOR := hide hor
  clear hor
  go_enter Try.func26, Try.ntmps26
  go_wp2_with fail
  rw [← hw0]
  clear hw0 hs1
  have hz0 : w.heap.size < w0.heap.size := World.lt_of_cell e0
  have hz1 : w.heap.size + 1 < w0.heap.size := World.lt_of_cell d0
  have hS0 : w0.drew.cell? ⟨w.heap.size, 0, none⟩ = some (.int .i64 xc) ∧ w0.drew.cell? ⟨w.heap.size, 1, none⟩ = some (.string xn) ∧ w0.drew.cell? ⟨w.heap.size + 1, 0, none⟩ = some (.int .i64 yc) ∧ w0.drew.cell? ⟨w.heap.size + 1, 1, none⟩ = some (.string yn) ∧ w.heap.size + 1 < w0.drew.heap.size ∧ Below w.heap.size w w0.drew := ⟨e0, e1, d0, d1, hz1, HB0.out.drew⟩
  have HS0 := hide hS0
  clear hS0
  have HN := hide (fun o => let h := held_new e0 e1 d0 d1 hz1 HB0.out o; (⟨h.1, h.2.1, h.2.2.1, h.2.2.2.1, h.2.2.2.2.1, h.2.2.2.2.2.drew⟩ : (w0.alloc o).drew.cell? ⟨w.heap.size, 0, none⟩ = some (.int .i64 xc) ∧ (w0.alloc o).drew.cell? ⟨w.heap.size, 1, none⟩ = some (.string xn) ∧ (w0.alloc o).drew.cell? ⟨w.heap.size + 1, 0, none⟩ = some (.int .i64 yc) ∧ (w0.alloc o).drew.cell? ⟨w.heap.size + 1, 1, none⟩ = some (.string yn) ∧ w.heap.size + 1 < (w0.alloc o).drew.heap.size ∧ Below w.heap.size w (w0.alloc o).drew))
  go_region_held3 (fun w' => w'.cell? ⟨w.heap.size, 0, none⟩ = some (.int .i64 xc) ∧ w'.cell? ⟨w.heap.size, 1, none⟩ = some (.string xn) ∧ w'.cell? ⟨w.heap.size + 1, 0, none⟩ = some (.int .i64 yc) ∧ w'.cell? ⟨w.heap.size + 1, 1, none⟩ = some (.string yn) ∧ w.heap.size + 1 < w'.heap.size ∧ Below w.heap.size w w')
    (first | exact HS0.out | exact HN.out _ | (refine ⟨?_, ?_, ?_, ?_, ?_, ?_⟩ <;> assumption))
    ((first
      | (go_at_call 28; refine (cmpI_any _ _ _).mono ?_; rintro e w' ⟨rfl, rfl⟩)
      | (go_at_call 29; refine (cmpS_any _ _ _).mono ?_; rintro e w' ⟨rfl, rfl⟩)
      | (go_at_call 27; refine HOR.out.mono ?_; rintro e w' ⟨rfl, rfl⟩)))
  all_goals
    have HZ := hide (HN.out (.cells #[.int .i64 (cmpI xc yc), .int .i64 (cmpS xn yn)] 3)).2.2.2.2.2
    clear e0 e1 d0 d1
    go_wp2
    go_ret
    exact ⟨rfl, HZ.out⟩
end Go.Proofs.Ytjaofdalmjiliaa
