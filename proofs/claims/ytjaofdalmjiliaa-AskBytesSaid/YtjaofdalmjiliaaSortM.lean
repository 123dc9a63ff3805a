/-
  SORTING: A ROW OF ATTRIBUTES IN MEMORY; CONTRACT OF slices.swapRangeCmpFunc.
  SORTING: CONTRACT OF slices.rotateCmpFunc.
  SORTING: CONTRACT OF slices.insertionSortCmpFunc.
  SORTING, PLAIN: what a search by halves finds; what is put together of two rows in order. No condition.
-/
import Derived.Test.YtjaofdalmjiliaaSortP
import Derived.Test.YtjaofdalmjiliaaIn
namespace Go.Proofs.Ytjaofdalmjiliaa
open Go.RowKit
set_option linter.unusedVariables false

/-- A row of its own in block g. -/
def RowAt (w : World) (B g c : Nat) (s : List Gm) : Prop := w.ownsRow B 40 3 (.slice (some ⟨g, 0, none⟩) s.length c) s.length (cellsG s)
theorem RowAt.cells {w : World} {B g c i : Nat} {s : List Gm} (h : RowAt w B g c s) (hi : i < s.length) :
    w.cell? ⟨g, i * 3, none⟩ = some (.int .i64 s[i].cat) ∧ w.cell? ⟨g, i * 3 + 1, none⟩ = some (.string s[i].name) ∧ w.cell? ⟨g, i * 3 + 2, none⟩ = some (.slice s[i].at_ s[i].bag.length s[i].cap) := by
  obtain ⟨e0, e1, e2⟩ := cells3_map_at gcell (l := s) hi
  exact ⟨(World.ownsRow.cellAt h (i * 3) (by omega)).trans e0, (World.ownsRow.cellAt h (i * 3 + 1) (by omega)).trans e1, (World.ownsRow.cellAt h (i * 3 + 2) (by omega)).trans e2⟩
theorem RowAt.frozen {w : World} {B g c : Nat} {s : List Gm} (h : RowAt w B g c s) (j : Nat) : w.frozen? ⟨g, j, none⟩ = false := World.ownsRow.frozenAt h j
theorem RowAt.drew {w : World} {B g c : Nat} {s : List Gm} (h : RowAt w B g c s) : RowAt w.drew B g c s := World.ownsRow.drew h
theorem RowAt.lt {w : World} {B g c : Nat} {s : List Gm} (h : RowAt w B g c s) : B ≤ g ∧ g < w.heap.size := World.ownsRow.lt h g rfl
theorem RowAt.keep {w w' : World} {B g c : Nat} {s : List Gm} (h : RowAt w B g c s) (hb : Below w.heap.size w w') : RowAt w' B g c s := own_keep h hb
def set3 (w : World) (g i : Nat) (y : Gm) : World := ((w.setCell ⟨g, i * 3, none⟩ (.int .i64 y.cat)).setCell ⟨g, i * 3 + 1, none⟩ (.string y.name)).setCell ⟨g, i * 3 + 2, none⟩ (.slice y.at_ y.bag.length y.cap)
theorem grown_trans {a b c : World} {row : Option Nat} (h : a.grownBy b row) (k : b.grownBy c row) : a.grownBy c row :=
  ⟨k.os.trans h.os, k.tape.trans h.tape, k.output.trans h.output, Nat.le_trans h.size k.size, fun i hi hne => (k.block i (Nat.lt_of_lt_of_le hi h.size) hne).trans (h.block i hi hne)⟩
theorem grown_below {w w' : World} (h : Below w.heap.size w w') (row : Option Nat) : w.grownBy w' row := ⟨h.os, h.tape, h.output, h.size, fun k hk _ => h.block k hk⟩
theorem RowAt.put {w : World} {B g c i : Nat} {s : List Gm} (h : RowAt w B g c s) (hi : i < s.length) (y : Gm) : RowAt (set3 w g i y) B g c (s.set i y) ∧ w.grownBy (set3 w g i y) (some g) := by
  have h1 := World.ownsRow.stored h (i * 3) (.int .i64 y.cat)
  have h2 := h1.1.stored (i * 3 + 1) (.string y.name)
  have h3 := h2.1.stored (i * 3 + 2) (.slice y.at_ y.bag.length y.cap)
  refine ⟨?_, grown_trans (grown_trans h1.2 h2.2) h3.2⟩
  unfold RowAt
  rw [List.length_set, ← cellsG_set3 y s i hi]
  exact h3.1
/-- Two of a row exchanged. -/
def swp (s : List Gm) (i j : Nat) (hi : i < s.length) (hj : j < s.length) : List Gm := (s.set i s[j]).set j s[i]
theorem RowAt.swap {w : World} {B g c i j : Nat} {s : List Gm} (h : RowAt w B g c s) (hi : i < s.length) (hj : j < s.length) :
    RowAt (set3 (set3 w g i s[j]) g j s[i]) B g c (swp s i j hi hj) ∧ w.grownBy (set3 (set3 w g i s[j]) g j s[i]) (some g) := by
  have h1 := h.put hi s[j]
  have h2 := h1.1.put (i := j) (by rw [List.length_set]; exact hj) s[i]
  exact ⟨h2.1, grown_trans h1.2 h2.2⟩
theorem swp_mid {p m q : List Gm} {x y : Gm} {i j : Nat} (hi : p.length = i) (hj : i + 1 + m.length = j) (h1 : i < (p ++ x :: (m ++ y :: q)).length) (h2 : j < (p ++ x :: (m ++ y :: q)).length) : swp (p ++ x :: (m ++ y :: q)) i j h1 h2 = p ++ y :: (m ++ x :: q) := by
  subst hi hj
  have e1 : (p ++ x :: (m ++ y :: q))[p.length]'h1 = x := by rw [List.getElem_append_right (Nat.le_refl _)]; simp
  have e2 : (p ++ x :: (m ++ y :: q))[p.length + 1 + m.length]'h2 = y := by
    rw [List.getElem_append_right (by omega)]
    simp only [show p.length + 1 + m.length - p.length = m.length + 1 by omega, List.getElem_cons_succ]
    rw [List.getElem_append_right (Nat.le_refl _)]
    simp
  unfold swp
  rw [e1, e2]
  rw [List.set_append_right _ _ (Nat.le_refl _), Nat.sub_self, List.set_cons_zero, List.set_append_right _ _ (by omega), show p.length + 1 + m.length - p.length = m.length + 1 by omega, List.set_cons_succ, List.set_append_right _ _ (Nat.le_refl _), Nat.sub_self, List.set_cons_zero]
/-- .. told by the two: what the walk needs of the exchange, and what it brings. -/
structure Swaps (w : World) (B g c : Nat) (i j : Nat) (x y : Gm) (s : List Gm) : Prop where
  c0 : w.cell? ⟨g, i * 3, none⟩ = some (.int .i64 x.cat)
  c1 : w.cell? ⟨g, i * 3 + 1, none⟩ = some (.string x.name)
  c2 : w.cell? ⟨g, i * 3 + 2, none⟩ = some (.slice x.at_ x.bag.length x.cap)
  d0 : w.cell? ⟨g, j * 3, none⟩ = some (.int .i64 y.cat)
  d1 : w.cell? ⟨g, j * 3 + 1, none⟩ = some (.string y.name)
  d2 : w.cell? ⟨g, j * 3 + 2, none⟩ = some (.slice y.at_ y.bag.length y.cap)
  fr : ∀ k, w.frozen? ⟨g, k, none⟩ = false
  row : RowAt (set3 (set3 w g i y) g j x) B g c s
  out : w.grownBy (set3 (set3 w g i y) g j x) (some g)
  row' : RowAt (set3 (set3 w g j x) g i y) B g c s
  out' : w.grownBy (set3 (set3 w g j x) g i y) (some g)
theorem RowAt.swaps {w : World} {B g c i j : Nat} {p m q : List Gm} {x y : Gm} (h : RowAt w B g c (p ++ x :: (m ++ y :: q))) (hi : p.length = i) (hj : i + 1 + m.length = j) : Swaps w B g c i j x y (p ++ y :: (m ++ x :: q)) := by
  have h1 : i < (p ++ x :: (m ++ y :: q)).length := by simp; omega
  have h2 : j < (p ++ x :: (m ++ y :: q)).length := by simp; omega
  have e1 : (p ++ x :: (m ++ y :: q))[i]'h1 = x := by subst hi; rw [List.getElem_append_right (Nat.le_refl _)]; simp
  have e2 : (p ++ x :: (m ++ y :: q))[j]'h2 = y := by
    subst hi hj
    rw [List.getElem_append_right (by omega)]
    simp only [show p.length + 1 + m.length - p.length = m.length + 1 by omega, List.getElem_cons_succ]
    rw [List.getElem_append_right (Nat.le_refl _)]
    simp
  obtain ⟨c0, c1, c2⟩ := h.cells h1
  obtain ⟨d0, d1, d2⟩ := h.cells h2
  have hs := h.swap h1 h2
  have hs2 := h.swap h2 h1
  have e3 : swp (p ++ x :: (m ++ y :: q)) j i h2 h1 = swp (p ++ x :: (m ++ y :: q)) i j h1 h2 := by
    unfold swp
    rw [List.set_comm _ _ (by omega)]
  rw [swp_mid hi hj, e1, e2] at hs
  rw [e3, swp_mid hi hj, e1, e2] at hs2
  rw [e1] at c0 c1 c2
  rw [e2] at d0 d1 d2
  exact ⟨c0, c1, c2, d0, d1, d2, h.frozen, hs.1, hs.2, hs2.1, hs2.2⟩
theorem grown_drew {a b : World} {row : Option Nat} (h : a.grownBy b row) : a.grownBy b.drew row := ⟨h.os, h.tape, h.output, h.size, h.block⟩
/-- What a helper of the sort leaves: the row with s in it, all else as it was. -/
def SortPost (w : World) (B g c : Nat) (s : List Gm) (e : Ending) (w' : World) : Prop := e = .returned (.tuple #[]) ∧ RowAt w' B g c s ∧ w.grownBy w' (some g)
set_option maxHeartbeats 4000000 in
set_option maxRecDepth 20000 in
theorem swapRange_any (B g c N : Nat) (p x m y q : List Gm) (a b n : Nat) (f : Value) (w : World) (hN : (p ++ x ++ m ++ y ++ q).length = N) (hN2 : N ≤ 1000000) (ha : p.length = a) (hx : x.length = n) (hy : y.length = n) (hb : a + n + m.length = b) (h : RowAt w B g c (p ++ x ++ m ++ y ++ q)) :
    Calls Try.prog 55 #[.slice (some ⟨g, 0, none⟩) N c, .int .i64 a, .int .i64 b, .int .i64 n, f] w (SortPost w B g c (p ++ y ++ m ++ x ++ q)) := by
  have H := hide h
  have hbN : b + n ≤ N := by rw [← hN]; simp; omega
  have haN : a + n ≤ N := by omega
  have HL := hide (⟨hN, ha, hx, hy, hb⟩ : _ ∧ _ ∧ _ ∧ _ ∧ _)
  clear h hN ha hx hy hb
  go_enter Try.func55, Try.ntmps55
  go_wp2
  go_loopw [10] (fun i wr => ∃ (k : Nat) (x1 x2 y1 y2 : List Gm), k ≤ n ∧ i = .int .i64 k ∧ Hid (x = x1 ++ x2 ∧ y = y1 ++ y2 ∧ x1.length = k ∧ y1.length = k) ∧ Hid (RowAt wr B g c ((p ++ y1) ++ x2 ++ (m ++ x1) ++ y2 ++ q)) ∧ Hid (w.grownBy wr (some g))) (fun i _ => n - (intOf i).toNat)
  case atStart => exact ⟨0, [], x, [], y, by omega, rfl, hide ⟨rfl, rfl, rfl, rfl⟩, by simpa using H, hide (World.grownBy.refl w _)⟩
  case round =>
    obtain ⟨k, x1, x2, y1, y2, hk, rfl, HE, HR, HG⟩ := hrel
    by_cases hlt : k < n
    · obtain ⟨hN, ha, hx, hy, hb⟩ := HL.out
      obtain ⟨e1, e2, e3, e4⟩ := HE.out
      subst e1 e2
      rw [List.length_append] at hx hy
      obtain ⟨x0, x2', rfl⟩ : ∃ x0 x2', x2 = x0 :: x2' := by
        cases x2 with
        | nil => simp at hx; omega
        | cons u v => exact ⟨u, v, rfl⟩
      obtain ⟨y0, y2', rfl⟩ : ∃ y0 y2', y2 = y0 :: y2' := by
        cases y2 with
        | nil => simp at hy; omega
        | cons u v => exact ⟨u, v, rfl⟩
      have er : (p ++ y1) ++ (x0 :: x2') ++ (m ++ x1) ++ (y0 :: y2') ++ q = (p ++ y1) ++ x0 :: ((x2' ++ (m ++ x1)) ++ y0 :: (y2' ++ q)) := by simp
      have hr := HR.out
      rw [er] at hr
      simp only [List.length_cons] at hx hy
      have hsw := hr.swaps (i := a + k) (j := b + k) (by rw [List.length_append]; omega) (by simp only [List.length_append]; omega)
      have HSW := hide hsw
      obtain ⟨c0, c1, c2, d0, d1, d2, hf, _, _, _, _⟩ := hsw
      have f0 := hf ((a + k) * 3)
      have f1 := hf ((a + k) * 3 + 1)
      have f2 := hf ((a + k) * 3 + 2)
      have g0 := hf ((b + k) * 3)
      have g1 := hf ((b + k) * 3 + 1)
      have g2 := hf ((b + k) * 3 + 2)
      have hab : ¬ a = b := by omega
      have hba : ¬ b = a := by omega
      have ne0 : ¬ (a + k) * 3 = (b + k) * 3 := by omega
      have nf0 : ¬ (b + k) * 3 = (a + k) * 3 := by omega
      have ne1 : ¬ (a + k) * 3 = (b + k) * 3 + 1 := by omega
      have nf1 : ¬ (b + k) * 3 + 1 = (a + k) * 3 := by omega
      have ne2 : ¬ (a + k) * 3 = (b + k) * 3 + 2 := by omega
      have nf2 : ¬ (b + k) * 3 + 2 = (a + k) * 3 := by omega
      have ne3 : ¬ (a + k) * 3 + 1 = (b + k) * 3 := by omega
      have nf3 : ¬ (b + k) * 3 = (a + k) * 3 + 1 := by omega
      have ne4 : ¬ (a + k) * 3 + 1 = (b + k) * 3 + 1 := by omega
      have nf4 : ¬ (b + k) * 3 + 1 = (a + k) * 3 + 1 := by omega
      have ne5 : ¬ (a + k) * 3 + 1 = (b + k) * 3 + 2 := by omega
      have nf5 : ¬ (b + k) * 3 + 2 = (a + k) * 3 + 1 := by omega
      have ne6 : ¬ (a + k) * 3 + 2 = (b + k) * 3 := by omega
      have nf6 : ¬ (b + k) * 3 = (a + k) * 3 + 2 := by omega
      have ne7 : ¬ (a + k) * 3 + 2 = (b + k) * 3 + 1 := by omega
      have nf7 : ¬ (b + k) * 3 + 1 = (a + k) * 3 + 2 := by omega
      have ne8 : ¬ (a + k) * 3 + 2 = (b + k) * 3 + 2 := by omega
      have nf8 : ¬ (b + k) * 3 + 2 = (a + k) * 3 + 2 := by omega
      clear hr er hN ha hx hy hb HR hf e3 e4
      go_wp2_with fail
      go_big_region
      have hrow := HSW.out.row.drew
      have hout := grown_drew (grown_trans HG.out HSW.out.out)
      rw [show p ++ y1 ++ y0 :: (x2' ++ (m ++ x1) ++ x0 :: (y2' ++ q)) = (p ++ (y1 ++ [y0])) ++ x2' ++ (m ++ (x1 ++ [x0])) ++ y2' ++ q by simp] at hrow
      unfold set3 at hrow hout
      have HROW := hide hrow
      have HOUT := hide hout
      clear hrow hout
      clear c0 c1 c2 d0 d1 d2 f0 f1 f2 g0 g1 g2 HSW HG HL
      go_wp2
      go_roundw
      case rel => exact ⟨k + 1, x1 ++ [x0], x2', y1 ++ [y0], y2', by omega, by go_num, hide ⟨by simp, by simp, by simpa using HE.out.2.2.1, by simpa using HE.out.2.2.2⟩, HROW, HOUT⟩
      case measure => simp [intOf]; omega
    · obtain rfl : k = n := by omega
      obtain ⟨hN, ha, hx, hy, hb⟩ := HL.out
      obtain ⟨e1, e2, e3, e4⟩ := HE.out
      subst e1 e2
      rw [List.length_append] at hx hy
      obtain rfl : x2 = [] := List.eq_nil_of_length_eq_zero (by omega)
      obtain rfl : y2 = [] := List.eq_nil_of_length_eq_zero (by omega)
      have HF := hide (show RowAt wr B g c (p ++ (y1 ++ []) ++ m ++ (x1 ++ []) ++ q) by simpa using HR.out)
      clear hN ha hx hy hb HL HR H
      go_wp2
      go_end0
      exact ⟨rfl, by simpa using HF.out, HG.out⟩
end Go.Proofs.Ytjaofdalmjiliaa
namespace Go.Proofs.Ytjaofdalmjiliaa
open Go.RowKit
set_option linter.unusedVariables false

theorem cut_two {α : Type} (l : List α) (k : Nat) (h : k ≤ l.length) : ∃ a b, l = a ++ b ∧ a.length = k ∧ b.length = l.length - k := ⟨l.take k, l.drop k, (List.take_append_drop k l).symm, by rw [List.length_take]; omega, by rw [List.length_drop]⟩
/-- Where a rotation stands: two neighbours that are still to be exchanged. -/
structure Rot (w wr : World) (B g c N m : Nat) (goal : List Gm) (i j : Nat) (p x y q : List Gm) : Prop where
  row : RowAt wr B g c (p ++ x ++ y ++ q)
  goal : p ++ y ++ x ++ q = goal
  len : (p ++ x ++ y ++ q).length = N
  hx : x.length = i
  hy : y.length = j
  hp : p.length + i = m
  i0 : 0 < i
  j0 : 0 < j
  out : w.grownBy wr (some g)
theorem Rot.bound {w wr : World} {B g c N m i j : Nat} {goal p x y q : List Gm} (h : Rot w wr B g c N m goal i j p x y q) : m + j ≤ N := by
  have := h.len
  simp only [List.length_append] at this
  have := h.hx; have := h.hy; have := h.hp
  omega
set_option maxHeartbeats 4000000 in
set_option maxRecDepth 20000 in
theorem rotate_any (B g c N : Nat) (p x y q : List Gm) (a m b : Nat) (f : Value) (w : World) (hN : (p ++ x ++ y ++ q).length = N) (hN2 : N ≤ 1000000) (ha : p.length = a) (hm : a + x.length = m) (hb : m + y.length = b) (hx : 0 < x.length) (hy : 0 < y.length) (h : RowAt w B g c (p ++ x ++ y ++ q)) :
    Calls Try.prog 54 #[.slice (some ⟨g, 0, none⟩) N c, .int .i64 a, .int .i64 m, .int .i64 b, f] w (SortPost w B g c (p ++ y ++ x ++ q)) := by
  have HS : Hid (Rot w w B g c N m (p ++ y ++ x ++ q) x.length y.length p x y q) := hide ⟨h, rfl, hN, rfl, rfl, by omega, hx, hy, World.grownBy.refl w _⟩
  have hbN : b ≤ N := by have := HS.out.bound; omega
  have hxl : x.length = m - a := by omega
  have hyl : y.length = b - m := by omega
  have ham : a ≤ m := by omega
  have hmb : m ≤ b := by omega
  rw [hxl, hyl] at HS
  generalize p ++ y ++ x ++ q = goal at *
  have HSE : Hid (∃ p x y q, Rot w w B g c N m goal (m - a) (b - m) p x y q) := hide ⟨p, x, y, q, HS.out⟩
  clear HS h hN ha hm hb hx hy hxl hyl p x y q
  go_enter Try.func54, Try.ntmps54
  go_wp2
  go_loopw [10, 11] (fun u v wr => ∃ (i j : Nat), u = .int .i64 i ∧ v = .int .i64 j ∧ Hid (∃ p x y q, Rot w wr B g c N m goal i j p x y q)) (fun u v _ => (intOf u).toNat + (intOf v).toNat)
  case atStart => exact ⟨m - a, b - m, by congr 1; omega, by congr 1; omega, HSE⟩
  case round =>
    clear HSE
    obtain ⟨i, j, rfl, rfl, HE⟩ := hrel
    obtain ⟨p, x, y, q, hr⟩ := HE.out
    clear HE
    have hbd := hr.bound
    have hxi := hr.hx
    have hyj := hr.hy
    have hpm := hr.hp
    have hi0 := hr.i0
    have hj0 := hr.j0
    have HRT := hide hr
    clear hr
    rcases Nat.lt_trichotomy i j with hij | hij | hij
    · obtain ⟨y1, y2, hye, hy1, hy2⟩ := cut_two y (j - i) (by omega)
      have hne : ((i : Int) != (j : Int)) = true := bne_iff_ne.2 (by omega)
      have hgt : decide ((i : Int) > (j : Int)) = false := decide_eq_false (by omega)
      subst hye
      have HSW := hide (swapRange_any B g c N p x y1 y2 q (m - i) (m + j - i) i f wr (by rw [← HRT.out.len]; simp) hN2 (by omega) hxi (by omega) (by omega) (by have := HRT.out.row; simpa using this))
      have e1 : ((m - i : Nat) : Int) = (m : Int) - (i : Int) := by omega
      have e2 : ((m + j - i : Nat) : Int) = (m : Int) + (j : Int) - (i : Int) := by omega
      rw [e1, e2] at HSW
      clear e1 e2
      have him : i ≤ m := by omega
      go_wp2_with fail
      refine HSW.out.mono ?_
      rintro e w2 ⟨rfl, hrow, hout⟩
      have HROW := hide hrow
      have HOUT := hide hout
      clear HSW hrow hout
      go_wp2
      go_roundw
      case rel => exact ⟨i, j - i, rfl, by congr 1; omega, hide ⟨p, y2, y1, x ++ q, ⟨by have := HROW.out; simpa using this, by rw [← HRT.out.goal]; simp, by rw [← HRT.out.len]; simp; omega, by omega, hy1, hpm, hi0, by omega, grown_trans HRT.out.out HOUT.out⟩⟩⟩
      case measure => simp [intOf]; omega
    · subst hij
      have hne : ((i : Int) != (i : Int)) = false := by simp
      have HSW := hide (swapRange_any B g c N p x [] y q (m - i) m i f wr (by rw [← HRT.out.len]; simp) hN2 (by omega) hxi hyj (by simp; omega) (by have := HRT.out.row; simpa using this))
      have e1 : ((m - i : Nat) : Int) = (m : Int) - (i : Int) := by omega
      rw [e1] at HSW
      clear e1
      have him : i ≤ m := by omega
      have HGOAL := hide HRT.out.goal
      go_wp2_with fail
      refine HSW.out.mono ?_
      rintro e w2 ⟨rfl, hrow, hout⟩
      have HROW : Hid (RowAt w2 B g c goal) := hide (by rw [← HGOAL.out]; have := hrow; simpa using this)
      have HOUT := hide (grown_trans HRT.out.out hout)
      clear HSW hrow hout
      go_wp2
      go_end0
      exact ⟨rfl, HROW.out, HOUT.out⟩
    · obtain ⟨x1, x2, hxe, hx1, hx2⟩ := cut_two x j (by omega)
      have hne : ((i : Int) != (j : Int)) = true := bne_iff_ne.2 (by omega)
      have hgt : decide ((i : Int) > (j : Int)) = true := decide_eq_true (by omega)
      subst hxe
      have HSW := hide (swapRange_any B g c N p x1 x2 y q (m - i) m j f wr (by rw [← HRT.out.len]; simp) hN2 (by omega) hx1 hyj (by omega) (by have := HRT.out.row; simpa using this))
      have e1 : ((m - i : Nat) : Int) = (m : Int) - (i : Int) := by omega
      rw [e1] at HSW
      clear e1
      have him : i ≤ m := by omega
      go_wp2_with fail
      refine HSW.out.mono ?_
      rintro e w2 ⟨rfl, hrow, hout⟩
      have HROW := hide hrow
      have HOUT := hide hout
      clear HSW hrow hout
      go_wp2
      go_roundw
      case rel => exact ⟨i - j, j, by congr 1; omega, rfl, hide ⟨p ++ y, x2, x1, q, ⟨by have := HROW.out; simpa using this, by rw [← HRT.out.goal]; simp, by rw [← HRT.out.len]; simp; omega, by omega, hx1, by rw [List.length_append]; omega, by omega, hj0, grown_trans HRT.out.out HOUT.out⟩⟩⟩
      case measure => simp [intOf]; omega
end Go.Proofs.Ytjaofdalmjiliaa
namespace Go.Proofs.Ytjaofdalmjiliaa
open Go.RowKit
set_option linter.unusedVariables false

/-- ask.Put's closure as a value. -/
def cmpV : Value := .func (.func 26) #[] #[]
theorem out_below {w wr w' : World} {g : Nat} (h : w.grownBy wr (some g)) (k : Below wr.heap.size wr w') : w.grownBy w' (some g) := grown_trans h (grown_below k _)
/-- Where the sorting stands ahead of a round: in order, and the rest. -/
structure Ins (w wr : World) (B g c N a b : Nat) (p A q : List Gm) (k : Nat) (C R : List Gm) : Prop where
  row : RowAt wr B g c (p ++ C ++ R ++ q)
  perm : (C ++ R).Perm A
  up : Up C
  len : C.length = k
  out : w.grownBy wr (some g)
/-- .. and within a round: x goes forward. -/
structure Ins2 (w wr : World) (B g c N a b : Nat) (p A q : List Gm) (k j : Nat) (C1 C2 R : List Gm) (x : Gm) : Prop where
  row : RowAt wr B g c (p ++ C1 ++ x :: (C2 ++ R ++ q))
  perm : (C1 ++ x :: (C2 ++ R)).Perm A
  up : Up (C1 ++ C2)
  ahead : ∀ y ∈ C2, Lt x y
  lj : a + C1.length = j
  lk : C1.length + C2.length = k
  out : w.grownBy wr (some g)
theorem Ins2.done0 {w wr : World} {B g c N a b : Nat} {p A q : List Gm} {k j : Nat} {C2 R : List Gm} {x : Gm} (h : Ins2 w wr B g c N a b p A q k j [] C2 R x) : Ins w wr B g c N a b p A q (k + 1) (x :: C2) R where
  row := by have := h.row; simpa using this
  perm := by have := h.perm; simpa using this
  up := List.pairwise_cons.2 ⟨fun y hy => (h.ahead y hy).le, (List.pairwise_append.1 h.up).2.1⟩
  len := by have := h.lk; simp at this ⊢; omega
  out := h.out
theorem Ins2.done {w wr : World} {B g c N a b : Nat} {p A q : List Gm} {k j : Nat} {C1 C2 R : List Gm} {x y : Gm} (h : Ins2 w wr B g c N a b p A q k j (C1 ++ [y]) C2 R x) (hl : Le y x) : Ins w wr B g c N a b p A q (k + 1) (C1 ++ [y] ++ x :: C2) R where
  row := by have := h.row; simpa using this
  perm := by have := h.perm; simpa using this
  up := by
    have hu := List.pairwise_append.1 h.up
    refine Up.append hu.1 (List.pairwise_cons.2 ⟨fun z hz => (h.ahead z hz).le, hu.2.1⟩) (fun u hu1 v hv => ?_)
    rcases List.mem_cons.1 hv with rfl | hv
    · have h1 : Le u y := by
        rcases List.mem_append.1 hu1 with hu1 | hu1
        · exact (List.pairwise_append.1 hu.1).2.2 u hu1 y (by simp)
        · rw [List.mem_singleton] at hu1; subst hu1; exact Le.refl _
      exact h1.trans hl
    · exact hu.2.2 u hu1 v hv
  len := by have := h.lk; simp at this ⊢; omega
  out := h.out
theorem Ins2.swap {w wr w' : World} {B g c N a b : Nat} {p A q : List Gm} {k j : Nat} {C1 C2 R : List Gm} {x y : Gm} (h : Ins2 w wr B g c N a b p A q k (j + 1) (C1 ++ [y]) C2 R x) (hl : Lt x y) (hrow : RowAt w' B g c ((p ++ C1) ++ x :: ([] ++ y :: (C2 ++ R ++ q)))) (hout : w.grownBy w' (some g)) : Ins2 w w' B g c N a b p A q k j C1 (y :: C2) R x where
  row := by simpa using hrow
  perm := by
    refine List.Perm.trans ?_ h.perm
    simp only [List.append_assoc, List.cons_append, List.nil_append]
    exact (List.Perm.swap y x _).append_left C1
  up := by have := h.up; simpa using this
  ahead := fun z hz => by
    rcases List.mem_cons.1 hz with rfl | hz
    · exact hl
    · exact h.ahead z hz
  lj := by have := h.lj; simp at this; omega
  lk := by have := h.lk; simp at this ⊢; omega
  out := hout
theorem Ins.below {w wr w' : World} {B g c N a b : Nat} {p A q : List Gm} {k : Nat} {C R : List Gm} (h : Ins w wr B g c N a b p A q k C R) (hb : Below wr.heap.size wr w') : Ins w w' B g c N a b p A q k C R := ⟨h.row.keep hb, h.perm, h.up, h.len, out_below h.out hb⟩
theorem Ins2.below {w wr w' : World} {B g c N a b : Nat} {p A q : List Gm} {k j : Nat} {C1 C2 R : List Gm} {x : Gm} (h : Ins2 w wr B g c N a b p A q k j C1 C2 R x) (hb : Below wr.heap.size wr w') : Ins2 w w' B g c N a b p A q k j C1 C2 R x := ⟨h.row.keep hb, h.perm, h.up, h.ahead, h.lj, h.lk, out_below h.out hb⟩
theorem drawn_below (w : World) (n : Nat) : Below w.heap.size w (w.drewN n) := below_drawn (Below.refl _ _) ⟨n, rfl⟩
theorem Ins2.swaps {w wr : World} {B g c N a b : Nat} {p A q : List Gm} {k j : Nat} {C1 C2 R : List Gm} {x y : Gm} (ha : p.length = a) (h : Ins2 w wr B g c N a b p A q k (j + 1) (C1 ++ [y]) C2 R x) : Swaps wr B g c j (j + 1) y x ((p ++ C1) ++ x :: ([] ++ y :: (C2 ++ R ++ q))) :=
  RowAt.swaps (m := []) (by have := h.row; simpa using this) (by have := h.lj; rw [List.length_append] at this ⊢; simp at this; omega) (by simp)
theorem snoc_of {l : List Gm} (h : 0 < l.length) : ∃ l' y, l = l' ++ [y] := ⟨l.dropLast, l.getLast (by intro e; subst e; simp at h), (List.dropLast_concat_getLast _).symm⟩
def InsPost (w : World) (B g c : Nat) (p A q : List Gm) (e : Ending) (w' : World) : Prop := ∃ C, Up C ∧ C.Perm A ∧ SortPost w B g c (p ++ C ++ q) e w'
set_option maxHeartbeats 4000000 in
set_option maxRecDepth 20000 in
theorem insertion_any (B g c N : Nat) (p A q : List Gm) (a b : Nat) (w : World) (hN : (p ++ A ++ q).length = N) (hN2 : N ≤ 1000000) (ha : p.length = a) (hb : a + A.length = b) (h : RowAt w B g c (p ++ A ++ q)) :
    Calls Try.prog 52 #[.slice (some ⟨g, 0, none⟩) N c, .int .i64 a, .int .i64 b, cmpV] w (InsPost w B g c p A q) := by
  have hbN : b ≤ N := by simp only [List.length_append] at hN; omega
  unfold cmpV
  rcases Nat.eq_zero_or_pos A.length with h0 | h0
  · have hab : a = b := by omega
    have H := hide h
    have hlt : decide ((a : Int) + 1 < (b : Int)) = false := decide_eq_false (by omega)
    obtain rfl : A = [] := List.eq_nil_of_length_eq_zero h0
    clear h hN ha hb h0
    subst hab
    go_enter Try.func52, Try.ntmps52
    go_wp2
    refine wp_loop_rounds 1 ?_
    rw [rounds_succ]
    go_wp2
    go_end0
    exact ⟨[], List.Pairwise.nil, List.Perm.refl _, rfl, H.out, World.grownBy.refl w _⟩
  · obtain ⟨x, A', rfl⟩ : ∃ x A', A = x :: A' := by
      cases A with
      | nil => simp at h0
      | cons u v => exact ⟨u, v, rfl⟩
    have HS : Hid (∃ C R, Ins w w B g c N a b p (x :: A') q 1 C R) := hide ⟨[x], A', ⟨by have := h; simpa using this, List.Perm.refl _, List.pairwise_singleton _ _, rfl, World.grownBy.refl w _⟩⟩
    generalize hAA : x :: A' = A at *
    have HL := hide (⟨hN, ha⟩ : _ ∧ _)
    clear h hN ha hAA x A'
    generalize hn : A.length = n at *
    have hab : a ≤ b := by omega
    go_enter Try.func52, Try.ntmps52
    go_wp2
    go_loopw [8] (fun i wr => ∃ (k : Nat), 1 ≤ k ∧ k ≤ n ∧ i = .int .i64 ((a + k : Nat) : Int) ∧ Hid (∃ C R, Ins w wr B g c N a b p A q k C R)) (fun i _ => b - (intOf i).toNat)
    case atStart => exact ⟨1, by omega, by omega, rfl, HS⟩
    case round =>
      clear HS
      obtain ⟨k, hk1, hkn, rfl, HE⟩ := hrel
      by_cases hlt : k < n
      · obtain ⟨C, R, hins⟩ := HE.out
        have hRl : R.length = n - k := by have := hins.perm.length_eq; rw [List.length_append, hins.len] at this; omega
        obtain ⟨x, R', rfl⟩ : ∃ x R', R = x :: R' := by
          cases R with
          | nil => simp at hRl; omega
          | cons u v => exact ⟨u, v, rfl⟩
        have HI : Hid (∃ C1 C2 x, Ins2 w wr B g c N a b p A q k (a + k) C1 C2 R' x) := hide ⟨C, [], x, ⟨by have := hins.row; simpa using this, by have := hins.perm; simpa using this, by have := hins.up; simpa using this, by simp, by rw [hins.len], by have := hins.len; simpa using this, hins.out⟩⟩
        have hlti : ((a + k : Nat) : Int) < (b : Int) := by omega
        clear hins HE hRl
        go_wp2
        go_loopw [9] (fun v wr => ∃ (j : Nat), a ≤ j ∧ j ≤ a + k ∧ v = .int .i64 (j : Int) ∧ Hid (∃ C1 C2 x, Ins2 w wr B g c N a b p A q k j C1 C2 R' x)) (fun v _ => (intOf v).toNat)
        case atStart => exact ⟨a + k, by omega, by omega, rfl, HI⟩
        case round =>
          clear HI
          obtain ⟨j, haj, hjk, rfl, HI⟩ := hrel
          by_cases hja : a < j
          · obtain ⟨C1', C2, x, h2⟩ := HI.out
            obtain ⟨C1, y, rfl⟩ := snoc_of (l := C1') (by have := h2.lj; omega)
            obtain ⟨j', rfl⟩ : ∃ j', j = j' + 1 := ⟨j - 1, by omega⟩
            have hsw := h2.swaps HL.out.2
            have hgl := h2.row.lt.2
            have HI2 := hide h2
            obtain ⟨c0, c1, c2, d0, d1, d2, _, _, _, _, _⟩ := hsw
            have p0 : ∀ pp : In (Aft wr), pp.w.cell? ⟨g, j' * 3, none⟩ = some (.int .i64 y.cat) := fun pp => (pp.h.cell (p := ⟨g, j' * 3, none⟩) hgl).trans c0
            have p1 : ∀ pp : In (Aft wr), pp.w.cell? ⟨g, j' * 3 + 1, none⟩ = some (.string y.name) := fun pp => (pp.h.cell (p := ⟨g, j' * 3 + 1, none⟩) hgl).trans c1
            have p2 : ∀ pp : In (Aft wr), pp.w.cell? ⟨g, j' * 3 + 2, none⟩ = some (.slice y.at_ y.bag.length y.cap) := fun pp => (pp.h.cell (p := ⟨g, j' * 3 + 2, none⟩) hgl).trans c2
            have p3 : ∀ pp : In (Aft wr), pp.w.cell? ⟨g, (j' + 1) * 3, none⟩ = some (.int .i64 x.cat) := fun pp => (pp.h.cell (p := ⟨g, (j' + 1) * 3, none⟩) hgl).trans d0
            have p4 : ∀ pp : In (Aft wr), pp.w.cell? ⟨g, (j' + 1) * 3 + 1, none⟩ = some (.string x.name) := fun pp => (pp.h.cell (p := ⟨g, (j' + 1) * 3 + 1, none⟩) hgl).trans d1
            have p5 : ∀ pp : In (Aft wr), pp.w.cell? ⟨g, (j' + 1) * 3 + 2, none⟩ = some (.slice x.at_ x.bag.length x.cap) := fun pp => (pp.h.cell (p := ⟨g, (j' + 1) * 3 + 2, none⟩) hgl).trans d2
            have HX := hide (fun w' (hb' : Below wr.heap.size wr w') => (cmp_any x y w').mono fun e w2 (h : Told _ w' e w2) => (⟨h.1, below_on hb' h.2⟩ : e = _ ∧ Below wr.heap.size wr w2))
            have jN : (j' : Int) + 1 < (N : Int) := by omega
            have jN2 : j' + 1 < N := by omega
            have hja2 : (a : Int) < (j' : Int) + 1 := by omega
            clear HI h2 hgl c0 c1 c2 d0 d1 d2
            generalize hcz : cmpG x y = z at *
            have HCZ := hide hcz
            clear hcz
            by_cases hlv : z < 0
            · have dz : decide (z < 0) = true := decide_eq_true hlv
              have HLT := hide (cmpG_neg.1 (HCZ.out ▸ hlv))
              clear hlv
              go_wp2_with fail
              refine wp_region_in (C := Aft wr) (by kernel_rfl) (by kernel_rfl) (aft_drew wr) ?_
              repeat (go_big_quiet_step (exact in_call fun w' hb => HX.out w' hb))
              refine wpQuiet_nil ?_
              intro w2 hb2
              have hi3 := HI2.out.below hb2
              have hsw := hi3.swaps HL.out.2
              have HSW := hide hsw
              obtain ⟨c0, c1, c2, d0, d1, d2, hf, _, _, _, _⟩ := hsw
              have f0 := hf (j' * 3)
              have f1 := hf (j' * 3 + 1)
              have f2 := hf (j' * 3 + 2)
              have g0 := hf ((j' + 1) * 3)
              have g1 := hf ((j' + 1) * 3 + 1)
              have g2 := hf ((j' + 1) * 3 + 2)
              have ne0 : ¬ j' * 3 = (j' + 1) * 3 := by omega
              have nf0 : ¬ (j' + 1) * 3 = j' * 3 := by omega
              have ne1 : ¬ j' * 3 = (j' + 1) * 3 + 1 := by omega
              have nf1 : ¬ (j' + 1) * 3 + 1 = j' * 3 := by omega
              have ne2 : ¬ j' * 3 = (j' + 1) * 3 + 2 := by omega
              have nf2 : ¬ (j' + 1) * 3 + 2 = j' * 3 := by omega
              have ne3 : ¬ j' * 3 + 1 = (j' + 1) * 3 := by omega
              have nf3 : ¬ (j' + 1) * 3 = j' * 3 + 1 := by omega
              have ne4 : ¬ j' * 3 + 1 = (j' + 1) * 3 + 1 := by omega
              have nf4 : ¬ (j' + 1) * 3 + 1 = j' * 3 + 1 := by omega
              have ne5 : ¬ j' * 3 + 1 = (j' + 1) * 3 + 2 := by omega
              have nf5 : ¬ (j' + 1) * 3 + 2 = j' * 3 + 1 := by omega
              have ne6 : ¬ j' * 3 + 2 = (j' + 1) * 3 := by omega
              have nf6 : ¬ (j' + 1) * 3 = j' * 3 + 2 := by omega
              have ne7 : ¬ j' * 3 + 2 = (j' + 1) * 3 + 1 := by omega
              have nf7 : ¬ (j' + 1) * 3 + 1 = j' * 3 + 2 := by omega
              have ne8 : ¬ j' * 3 + 2 = (j' + 1) * 3 + 2 := by omega
              have nf8 : ¬ (j' + 1) * 3 + 2 = j' * 3 + 2 := by omega
              have HI3 := hide hi3
              clear p0 p1 p2 p3 p4 p5 HX hb2 HI2 hf hi3
              go_wp2_with fail
              go_big_region
              have hrow := HSW.out.row'.drew
              have hout := grown_drew (grown_trans HI3.out.out HSW.out.out')
              unfold set3 at hrow hout
              have HROW := hide hrow
              have HOUT := hide hout
              clear hrow hout c0 c1 c2 d0 d1 d2 f0 f1 f2 g0 g1 g2 HSW
              go_wp2
              go_roundw
              case rel => exact ⟨j', by omega, by omega, by go_num, hide ⟨_, _, _, HI3.out.swap HLT.out HROW.out HOUT.out⟩⟩
              case measure => simp [intOf]
            · have dz : decide (z < 0) = false := decide_eq_false hlv
              have HLT : Hid (Le y x) := hide (fun h => hlv (HCZ.out ▸ cmpG_neg.2 h))
              clear hlv
              go_wp2_with fail
              refine wp_region_in (C := Aft wr) (by kernel_rfl) (by kernel_rfl) (aft_drew wr) ?_
              repeat (go_big_quiet_step (exact in_call fun w' hb => HX.out w' hb))
              refine wpQuiet_nil ?_
              intro w2 hb2
              have HI3 := hide ((HI2.out.below hb2).done HLT.out)
              clear p0 p1 p2 p3 p4 p5 HX hb2 HI2
              go_wp2
              go_roundw
              case rel => exact ⟨k + 1, by omega, by omega, by go_num, hide ⟨_, _, HI3.out⟩⟩
              case measure => simp [intOf]; omega
          · obtain rfl : j = a := by omega
            obtain ⟨C1', C2, x, h2⟩ := HI.out
            obtain rfl : C1' = [] := List.eq_nil_of_length_eq_zero (by have := h2.lj; omega)
            have HX := hide h2.done0
            have dja : decide ((j : Int) > (j : Int)) = false := decide_eq_false (by omega)
            clear HI h2
            go_wp2_with fail
            go_quiet (fail)
            go_wp2
            go_roundw
            case rel => exact ⟨k + 1, by omega, by omega, by go_num, hide ⟨_, _, HX.out.below (drawn_below _ _)⟩⟩
            case measure => simp [intOf]; omega
      · obtain rfl : k = n := by omega
        obtain ⟨C, R, hins⟩ := HE.out
        have hRl : R.length = 0 := by have := hins.perm.length_eq; rw [List.length_append, hins.len] at this; omega
        obtain rfl : R = [] := List.eq_nil_of_length_eq_zero hRl
        have hlti : ¬ ((a + k : Nat) : Int) < (b : Int) := by omega
        have HX := hide hins
        clear hins hRl HE
        go_wp2
        go_end0
        exact ⟨C, HX.out.up, by have := HX.out.perm; simpa using this, rfl, by have := HX.out.row; simpa using this, HX.out.out⟩
end Go.Proofs.Ytjaofdalmjiliaa
namespace Go.Proofs.Ytjaofdalmjiliaa
open Go.RowKit

/-- A search by halves: below s it isn't so, from r on it is. -/
structure Srch (P : Nat → Prop) (s0 r0 s r : Nat) : Prop where
  l0 : s0 ≤ s
  l1 : s ≤ r
  l2 : r ≤ r0
  no : ∀ c, s0 ≤ c → c < s → ¬ P c
  yes : ∀ c, r ≤ c → c < r0 → P c
def Mono (P : Nat → Prop) (s0 r0 : Nat) : Prop := ∀ c d, s0 ≤ c → c ≤ d → d < r0 → P c → P d
theorem Srch.start (P : Nat → Prop) (s0 r0 : Nat) (h : s0 ≤ r0) : Srch P s0 r0 s0 r0 := ⟨Nat.le_refl _, h, Nat.le_refl _, fun c h1 h2 => absurd h2 (by omega), fun c h1 h2 => absurd h2 (by omega)⟩
theorem Srch.low {P : Nat → Prop} {s0 r0 s r c : Nat} (h : Srch P s0 r0 s r) (hm : Mono P s0 r0) (h1 : s ≤ c) (h2 : c < r) (hn : ¬ P c) : Srch P s0 r0 (c + 1) r :=
  ⟨by have := h.l0; omega, by omega, h.l2, fun d hd1 hd2 hp => hn (hm d c hd1 (by omega) (by have := h.l2; omega) hp), h.yes⟩
theorem Srch.high {P : Nat → Prop} {s0 r0 s r c : Nat} (h : Srch P s0 r0 s r) (hm : Mono P s0 r0) (h1 : s ≤ c) (h2 : c < r) (hp : P c) : Srch P s0 r0 s c :=
  ⟨h.l0, h1, by have := h.l2; omega, h.no, fun d hd1 hd2 => hm c d (by have := h.l0; omega) hd1 hd2 hp⟩
theorem look_mid {p x q : List Gm} {i : Nat} (hi : i < x.length) : (p ++ x ++ q)[p.length + i]? = some x[i] := by
  rw [List.append_assoc, List.getElem?_append_right (by omega), show p.length + i - p.length = i by omega, List.getElem?_append_left hi, List.getElem?_eq_getElem hi]
theorem look_mid' {p x q : List Gm} {i k : Nat} (hi : i < x.length) (hk : p.length + i = k) : (p ++ x ++ q)[k]? = some x[i] := by subst hk; exact look_mid hi
/-- What the search by halves of one element's place asks: is it not less than x? -/
def P1 (L : List Gm) (x : Gm) (h : Nat) : Prop := ∀ y, L[h]? = some y → ¬ Lt y x
/-- .. is y less than it? -/
def P2 (L : List Gm) (y : Gm) (h : Nat) : Prop := ∀ v, L[h]? = some v → Lt y v
/-- .. is the one behind less than the one ahead? -/
def P3 (L : List Gm) (n c : Nat) : Prop := ∀ u v, L[n - 1 - c]? = some u → L[c]? = some v → Lt u v
theorem mono1 {p b q : List Gm} {m e : Nat} (x : Gm) (hb : Up b) (hm : p.length = m) (he : m + b.length = e) : Mono (P1 (p ++ b ++ q) x) m e := by
  intro c d h1 h2 h3 hp y hy hl
  rw [look_mid' (i := d - m) (by omega) (by omega)] at hy
  injection hy with hy
  subst hy
  refine hp (b[c - m]'(by omega)) (look_mid' (by omega) (by omega)) (Le.lt_trans (up_at_le hb (by omega) (by omega)) hl)
theorem mono2 {p b q : List Gm} {m e : Nat} (x : Gm) (hb : Up b) (hm : p.length = m) (he : m + b.length = e) : Mono (P2 (p ++ b ++ q) x) m e := by
  intro c d h1 h2 h3 hp y hy
  rw [look_mid' (i := d - m) (by omega) (by omega)] at hy
  injection hy with hy
  subst hy
  exact Lt.le_trans (hp (b[c - m]'(by omega)) (look_mid' (by omega) (by omega))) (up_at_le hb (by omega) (by omega))
theorem Up.cut {b1 b2 : List Gm} (h : Up (b1 ++ b2)) : Up b1 ∧ Up b2 ∧ ∀ x ∈ b1, ∀ y ∈ b2, Le x y := List.pairwise_append.1 h
/-- One element goes into its place. -/
theorem merge1 {b1 b2 : List Gm} {x : Gm} (h : Up (b1 ++ b2)) (h1 : ∀ y ∈ b1, Le y x) (h2 : ∀ y ∈ b2, Le x y) : Up (b1 ++ x :: b2) := by
  obtain ⟨u1, u2, u3⟩ := h.cut
  refine Up.append u1 (List.pairwise_cons.2 ⟨h2, u2⟩) (fun u hu v hv => ?_)
  rcases List.mem_cons.1 hv with rfl | hv
  · exact h1 u hu
  · exact u3 u hu v hv
/-- The two halves of a merge. -/
theorem merge3 {a1 a2 b1 b2 c1 c2 : List Gm} (ha : Up (a1 ++ a2)) (hb : Up (b1 ++ b2)) (h1 : ∀ x ∈ a1, ∀ y ∈ b2, Le x y) (h2 : ∀ x ∈ b1, ∀ y ∈ a2, Le x y) (u1 : Up c1) (u2 : Up c2) (p1 : c1.Perm (a1 ++ b1)) (p2 : c2.Perm (a2 ++ b2)) :
    Up (c1 ++ c2) ∧ (c1 ++ c2).Perm (a1 ++ a2 ++ (b1 ++ b2)) := by
  constructor
  · refine Up.append u1 u2 (fun x hx y hy => ?_)
    rcases List.mem_append.1 (p1.mem_iff.1 hx) with hx | hx <;> rcases List.mem_append.1 (p2.mem_iff.1 hy) with hy | hy
    · exact ha.cut.2.2 x hx y hy
    · exact h1 x hx y hy
    · exact h2 x hx y hy
    · exact hb.cut.2.2 x hx y hy
  · refine (p1.append p2).trans ?_
    rw [List.append_assoc, List.append_assoc]
    refine List.Perm.append_left a1 ?_
    rw [← List.append_assoc, ← List.append_assoc]
    exact List.perm_append_comm.append_right b2
end Go.Proofs.Ytjaofdalmjiliaa
