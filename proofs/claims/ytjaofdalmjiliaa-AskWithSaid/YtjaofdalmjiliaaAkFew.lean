/-
  CONTRACTS OF bailiffkeep.left's methods AND OF bailiffkeep.Few: what is few is short.
-/
import Derived.Test.YtjaofdalmjiliaaAkRefGet
namespace Go.Proofs.Ytjaofdalmjiliaa
open Go.RowKit
set_option linter.unusedVariables false

/-- What is left of a number, in block g. -/
def LeftAt (w : World) (g q : Nat) : Prop := w.heap[g]? = some (.cells #[.int .i64 (q : Nat)] 64 (0, 0)) ∧ q ≤ 1200
/-- A truth; if so the number was small; memory but g is as it was. -/
def TakesPost (w : World) (g n : Nat) (e : Ending) (w' : World) : Prop := ∃ (b : Bool) (q : Nat), e = .returned (.bool b) ∧ (b = true → n ≤ 1200) ∧ LeftAt w' g q ∧ w.grownBy w' (some g)
theorem left_lt {w : World} {g q : Nat} (h : LeftAt w g q) : g < w.heap.size := (Array.getElem?_eq_some_iff.1 h.1).1
theorem grown_set1 (w : World) (g j : Nat) (u : Value) : w.grownBy (w.setCell ⟨g, j, none⟩ u) (some g) :=
  ⟨rfl, rfl, rfl, by simp, fun k _ hk => heap_setCell_other w ⟨g, j, none⟩ k u (fun e => hk (by simp [e]))⟩
theorem left_keep {w w' : World} {g q : Nat} (h : LeftAt w g q) (hb : Below w.heap.size w w') : LeftAt w' g q := ⟨(hb.block g (left_lt h)).trans h.1, h.2⟩
theorem takes_any (g q n : Nat) (w : World) (h : LeftAt w g q) (hn : n ≤ 9223372036854775807) :
    Calls Try.prog 33 #[.pointer (some ⟨g, 0, none⟩), .int .i64 (n : Nat)] w (TakesPost w g n) := by
  have c0 : w.cell? ⟨g, 0, none⟩ = some (.int .i64 (q : Nat)) := by simp [World.cell?, h.1]
  have f0 : w.frozen? ⟨g, 0, none⟩ = false := frozen_of_row w g 0 _ _ h.1
  have hq := h.2
  have H := hide h
  clear h
  by_cases hlt : q < n
  · have hd : decide ((n : Int) > (q : Int)) = true := decide_eq_true (by omega)
    go_enter Try.func33, Try.ntmps33
    go_wp2
    go_ret
    exact ⟨false, q, rfl, fun h => absurd h (by decide), H.out, World.grownBy.refl w _⟩
  · have hd : decide ((n : Int) > (q : Int)) = false := decide_eq_false (by omega)
    have hle : n ≤ q := by omega
    have e1 : ((q : Int) - (n : Int)) = ((q - n : Nat) : Int) := by omega
    go_enter Try.func33, Try.ntmps33
    go_wp2
    go_ret
    refine ⟨true, q - n, rfl, fun _ => by omega, ⟨?_, by omega⟩, grown_set1 w g 0 _⟩
    rw [heap_setCell_same w g 0 _ _ _ H.out.1]
    first | rfl | (rw [← e1]; rfl) | (simp; omega)
theorem lefttext_any (g q : Nat) (s : ByteArray) (w : World) (h : LeftAt w g q) (hs : s.size ≤ maxLen) :
    Calls Try.prog 34 #[.pointer (some ⟨g, 0, none⟩), .string s] w (TakesPost w g (1 + s.size / 8)) := by
  unfold maxLen at hs
  have HT := hide (takes_any g q (1 + s.size / 8) w h (by omega))
  have e1 : ((1 + s.size / 8 : Nat) : Int) = 1 + (s.size : Int) / 8 := by omega
  rw [e1] at HT
  clear h e1
  go_enter Try.func34, Try.ntmps34
  go_wp2_with fail
  refine HT.out.mono ?_
  rintro e w' ⟨b, q', rfl, h1, h2, h3⟩
  go_wp2
  go_ret
  exact ⟨b, q', rfl, h1, h2, h3⟩
end Go.Proofs.Ytjaofdalmjiliaa
