/-
  CONTRACTS OF bailiffkeep.left's methods AND OF bailiffkeep.Few: what is few is short.
  CONTRACT OF bailiffkeep.Few: what is few is short.
-/
import Derived.Test.YtjaofdalmjiliaaAkGet
namespace Go.Proofs.Ytjaofdalmjiliaa
open Go.RowKit
set_option linter.unusedVariables false

/-- What is left of a number, in block g. -/
def LeftAt (w : World) (g q : Nat) : Prop := w.heap[g]? = some (.cells #[.int .i64 (q : Nat)] 64 (0, 0)) ∧ q ≤ 1200
/-- A truth; if so the number was small; memory but g is as it was. -/
def TakesPost (w : World) (g n : Nat) (e : Ending) (w' : World) : Prop := ∃ (b : Bool) (q : Nat), e = .returned (.bool b) ∧ (b = true → n ≤ 1200) ∧ LeftAt w' g q ∧ w.grownBy w' (some g)
theorem left_lt {w : World} {g q : Nat} (h : LeftAt w g q) : g < w.heap.size := (Array.getElem?_eq_some_iff.1 h.1).1
theorem grown_set1 (w : World) (g j : Nat) (u : Value) : w.grownBy (w.setCell ⟨g, j, none⟩ u) (some g) :=
  ⟨rfl, rfl, rfl, by simp, fun k _ hk => heap_setCell_other w ⟨g, j, none⟩ k u (fun e => hk (by simp [e]))⟩
theorem left_keep {w w' : World} {g q : Nat} (h : LeftAt w g q) (hb : Below w.heap.size w w') : LeftAt w' g q := ⟨(hb.block g (left_lt h)).trans h.1, h.2⟩
theorem takes_any (g q n : Nat) (w : World) (h : LeftAt w g q) (hn : n ≤ 9223372036854775807) :
    Calls Try.prog 33 #[.pointer (some ⟨g, 0, none⟩), .int .i64 (n : Nat)] w (TakesPost w g n) := by
  have c0 : w.cell? ⟨g, 0, none⟩ = some (.int .i64 (q : Nat)) := by simp [World.cell?, h.1]
  have f0 : w.frozen? ⟨g, 0, none⟩ = false := frozen_of_row w g 0 _ _ h.1
  have hq := h.2
  have H := hide h
  clear h
  by_cases hlt : q < n
  · have hd : decide ((n : Int) > (q : Int)) = true := decide_eq_true (by omega)
    go_enter Try.func33, Try.ntmps33
    go_wp2
    go_ret
    exact ⟨false, q, rfl, fun h => absurd h (by decide), H.out, World.grownBy.refl w _⟩
  · have hd : decide ((n : Int) > (q : Int)) = false := decide_eq_false (by omega)
    have hle : n ≤ q := by omega
    have e1 : ((q : Int) - (n : Int)) = ((q - n : Nat) : Int) := by omega
    go_enter Try.func33, Try.ntmps33
    go_wp2
    go_ret
    refine ⟨true, q - n, rfl, fun _ => by omega, ⟨?_, by omega⟩, grown_set1 w g 0 _⟩
    rw [heap_setCell_same w g 0 _ _ _ H.out.1]
    first | rfl | (rw [← e1]; rfl) | (simp; omega)
theorem lefttext_any (g q : Nat) (s : ByteArray) (w : World) (h : LeftAt w g q) (hs : s.size ≤ maxLen) :
    Calls Try.prog 34 #[.pointer (some ⟨g, 0, none⟩), .string s] w (TakesPost w g (1 + s.size / 8)) := by
  unfold maxLen at hs
  have HT := hide (takes_any g q (1 + s.size / 8) w h (by omega))
  have e1 : ((1 + s.size / 8 : Nat) : Int) = 1 + (s.size : Int) / 8 := by omega
  rw [e1] at HT
  clear h e1
  go_enter Try.func34, Try.ntmps34
  go_wp2_with fail
  refine HT.out.mono ?_
  rintro e w' ⟨b, q', rfl, h1, h2, h3⟩
  go_wp2
  go_ret
  exact ⟨b, q', rfl, h1, h2, h3⟩
end Go.Proofs.Ytjaofdalmjiliaa
namespace Go.Proofs.Ytjaofdalmjiliaa
open Go.RowKit
set_option linter.unusedVariables false

def FewV (v : V3) : Prop := v.2.2.size ≤ 9600
def FewG (x : Gm) : Prop := x.name.size ≤ 9600 ∧ x.bag.length ≤ 1200 ∧ ∀ (j : Nat) (hj : j < x.bag.length), FewV x.bag[j]
def FewL (l : List Gm) : Prop := l.length ≤ 600 ∧ ∀ (i : Nat) (hi : i < l.length), FewG l[i]
def FewPost (w : World) (l : List Gm) (e : Ending) (w' : World) : Prop := ∃ b : Bool, e = .returned (.bool b) ∧ (b = true → FewL l) ∧ Below w.heap.size w w'
theorem below_grown {B g : Nat} {w0 w w' : World} (h : Below B w0 w) (k : w.grownBy w' (some g)) (hg : B ≤ g) (hB : B ≤ w.heap.size) : Below B w0 w' :=
  ⟨k.os.trans h.os, k.tape.trans h.tape, k.output.trans h.output, Nat.le_trans h.size k.size, fun i hi => (k.block i (Nat.lt_of_lt_of_le hi hB) (by simp; omega)).trans (h.block i hi)⟩
theorem cell_grown {g : Nat} {w w' : World} {p : Addr} {v : Value} (k : w.grownBy w' (some g)) (hp : p.block < w.heap.size) (hne : p.block ≠ g) (h : w.cell? p = some v) : w'.cell? p = some v :=
  (World.cell?_of_block (k.block p.block hp (by simpa using hne))).trans h
/-- The world of the walk: what is left of the number, and what was there. -/
structure FewW (w wr : World) (q : Nat) : Prop where
  left : LeftAt wr w.heap.size q
  below : Below w.heap.size w wr
theorem FewW.new {w wr : World} {q : Nat} (h : FewW w wr q) (o : Obj) : FewW w (wr.alloc o) q := ⟨left_keep h.left (below_new wr o), h.below.alloc h.below.size o⟩
theorem FewW.size {w wr : World} {q : Nat} (h : FewW w wr q) : w.heap.size < wr.heap.size := left_lt h.left
theorem FewW.step {w wr w' : World} {q q' : Nat} (h : FewW w wr q) (hl : LeftAt w' w.heap.size q') (hg : wr.grownBy w' (some w.heap.size)) : FewW w w' q' := ⟨hl, below_grown h.below hg (Nat.le_refl _) h.below.size⟩
set_option maxHeartbeats 1000000 in
theorem few_any (a : Option Addr) (c n : Nat) (l : List Gm) (hn : l.length = n) (w : World) (hl : l.length ≤ 140737488355328) (hr : Req w w.heap.size a l) :
    Calls Try.prog 11 #[.slice a n c] w (FewPost w l) := by
  subst hn
  have hw0 : FewW w (w.alloc (.cells #[.int .i64 1200] 64)) 1200 := ⟨⟨heap_alloc_new w _, by omega⟩, below_new w _⟩
  have HT := hide (takes_any w.heap.size 1200 (2 * l.length) _ hw0.left (by omega))
  have e1 : ((2 * l.length : Nat) : Int) = 2 * (l.length : Int) := by omega
  rw [e1] at HT
  have HW := hide hw0
  have HR := hide hr
  clear hw0 e1 hr
  go_enter Try.func11, Try.ntmps11
  go_wp2_with fail
  refine HT.out.mono ?_
  rintro e w1 ⟨b, q, rfl, hb, hq, hg⟩
  have HW1 := hide (HW.out.step hq hg)
  clear HT HW hq hg
  cases b
  · go_wp2
    go_ret
    exact ⟨false, rfl, fun h => absurd h (by decide), HW1.out.below⟩
  have HL : Hid (l.length ≤ 600) := hide (by have := hb rfl; omega)
  clear hb
  go_wp2
  go_loopw [18] (fun i wr => ∃ k q : Nat, k ≤ l.length ∧ i = .int .i64 k ∧ Hid (∀ i (hi : i < l.length), i < k → FewG l[i]) ∧ Hid (FewW w wr q)) (fun i _ => l.length - (intOf i).toNat)
  case atStart => exact ⟨0, q, by omega, rfl, hide (fun i _ h => absurd h (by omega)), HW1⟩
  case round =>
    clear HW1 q
    obtain ⟨k, q, hk, rfl, HF, HWR⟩ := hrel
    by_cases hlt : k < l.length
    · obtain ⟨b, off, rfl, hb, x0, x1, x2⟩ := (HR.out.below HWR.out.below).at hlt
      have HG := hide (HR.out.2 l[k] (List.getElem_mem _))
      have HFS := hide (fun (hx : FewG l[k]) => (fun i hi h => by
        rcases Nat.lt_or_ge i k with h1 | h1
        · exact HF.out i hi h1
        · obtain rfl : i = k := by omega
          exact hx : ∀ i (hi : i < l.length), i < k + 1 → FewG l[i]))
      clear HF
      generalize l[k] = x at *
      obtain ⟨xc, xn, xa, xcap, bag⟩ := x
      simp only at x0 x1 x2
      have HW2 := hide (HWR.out.new (.cells #[.int .i64 xc, .string xn, .slice xa bag.length xcap] 40))
      have HT := hide (lefttext_any w.heap.size q xn _ HW2.out.left HG.out.2.1)
      have hz := three_laid wr (.int .i64 xc) (.string xn) (.slice xa bag.length xcap) 40
      have hsz : wr.heap.size < (wr.alloc (.cells #[.int .i64 xc, .string xn, .slice xa bag.length xcap] 40)).heap.size := by simp
      have hne0 : wr.heap.size ≠ w.heap.size := by have := HWR.out.size; omega
      go_wp2_with fail
      refine HT.out.mono ?_
      rintro e w2 ⟨b2, q2, rfl, hb2, hq2, hg2⟩
      have HW3 := hide (HW2.out.step hq2 hg2)
      have c2 := cell_grown hg2 hsz hne0 hz.2.2
      have hs2 : wr.heap.size < w2.heap.size := Nat.lt_of_lt_of_le hsz hg2.size
      clear HT HW2 hq2 hg2 hz hsz
      cases b2
      · go_wp2
        go_ret
        exact ⟨false, rfl, fun h => absurd h (by decide), HW3.out.below⟩
      have HN : Hid (xn.size ≤ 9600) := hide (by have := hb2 rfl; omega)
      have hbm : bag.length ≤ 9223372036854775807 := by have h1 := HG.out.2.2.1; have h2 := HG.out.2.2.2.1; unfold maxLen at h2; exact Nat.le_trans h1 h2
      have HT2 := hide (takes_any w.heap.size q2 bag.length _ HW3.out.left hbm)
      clear hb2
      go_wp2_with fail
      refine HT2.out.mono ?_
      rintro e w3 ⟨b3, q3, rfl, hb3, hq3, hg3⟩
      have HW4 := hide (HW3.out.step hq3 hg3)
      have c3 := cell_grown hg3 hs2 hne0 c2
      clear HT2 hq3 hg3 c2 hs2 HW3
      cases b3
      · go_wp2
        go_ret
        exact ⟨false, rfl, fun h => absurd h (by decide), HW4.out.below⟩
      have HB : Hid (bag.length ≤ 1200) := hide (hb3 rfl)
      clear hb3 x0 x1 x2 hne0
      go_wp2
      clear c3
      generalize wr.heap.size = nb
      clear HWR
      go_loopw [38] (fun i wr => ∃ j q : Nat, j ≤ bag.length ∧ i = .int .i64 j ∧ Hid (∀ i (hi : i < bag.length), i < j → FewV bag[i]) ∧ Hid (FewW w wr q)) (fun i _ => bag.length - (intOf i).toNat)
      case atStart => exact ⟨0, q3, by omega, rfl, hide (fun i _ h => absurd h (by omega)), HW4⟩
      case round =>
        clear HW4 q3
        obtain ⟨j, q, hj, rfl, HF, HWR⟩ := hrel
        by_cases hlt2 : j < bag.length
        · obtain ⟨b', off', rfl, hb', y0, y1, y2⟩ := (HG.out.2.2.2.2.1.below HWR.out.below).val hlt2
          have HV := hide (HG.out.2.2.2.2.2 bag[j] (List.getElem_mem _)).2.2
          have HFJ := hide (fun (hx : FewV bag[j]) => (fun i hi h => by
            rcases Nat.lt_or_ge i j with h1 | h1
            · exact HF.out i hi h1
            · obtain rfl : i = j := by omega
              exact hx : ∀ i (hi : i < bag.length), i < j + 1 → FewV bag[i]))
          clear HF
          generalize bag[j] = v at *
          obtain ⟨v0, v1, v2⟩ := v
          simp only at y0 y1 y2 HV
          have HW2 := hide (HWR.out.new (.cells #[.int .i64 v0, .int .i64 v1, .string v2] 35))
          have HT := hide (lefttext_any w.heap.size q v2 _ HW2.out.left HV.out)
          go_wp2_with fail
          refine HT.out.mono ?_
          rintro e w5 ⟨b5, q5, rfl, hb5, hq5, hg5⟩
          have HW3 := hide (HW2.out.step hq5 hg5)
          clear HT HW2 hq5 hg5
          cases b5
          · go_wp2
            go_ret
            exact ⟨false, rfl, fun h => absurd h (by decide), HW3.out.below⟩
          have HN2 : Hid (FewV (v0, v1, v2)) := hide (by have := hb5 rfl; unfold FewV; simp only; omega)
          clear hb5
          go_wp2
          go_roundw
          case rel => exact ⟨j + 1, q5, by omega, by go_num, hide (HFJ.out HN2.out), HW3⟩
          case measure => simp [intOf]; omega
        · obtain rfl : j = bag.length := by omega
          have HX := hide (HFS.out ⟨HN.out, HB.out, fun i hi => HF.out i hi hi⟩)
          clear HF HFS
          go_wp2
          go_roundw
          case rel => exact ⟨k + 1, q, by omega, by go_num, HX, HWR⟩
          case measure => simp [intOf]; omega
    · obtain rfl : k = l.length := by omega
      have HX : Hid (FewL l) := hide ⟨HL.out, fun i hi => HF.out i hi hi⟩
      go_wp2
      go_ret
      exact ⟨true, rfl, fun _ => HX.out, HWR.out.below⟩
end Go.Proofs.Ytjaofdalmjiliaa
