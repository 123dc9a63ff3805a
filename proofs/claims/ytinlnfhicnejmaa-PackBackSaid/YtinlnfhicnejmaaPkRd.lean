/-
  A READER IN MEMORY; CONTRACTS OF pack.Read, At, Wrong, End, Fail.
-/
import Derived.Test.YtinlnfhicnejmaaPkText
import Derived.Test.YtinlnfhicnejmaaBook
import Derived.Deep.Draws
namespace Go.Proofs.Ytinlnfhicnejmaa
open Go.RowKit
set_option linter.unusedVariables false

/-- A reader of bytes l, in block g; its own bytes lie between lo and g. -/
def Reads (w : World) (lo g : Nat) (l : List UInt8) (at_ : Nat) (bad : Bool) : Prop :=
  ∃ A c, w.heap[g]? = some (.cells #[.slice A l.length c, .int .i64 (at_ : Nat), .bool bad] 82 (0, 0)) ∧ l.length ≤ c ∧ c ≤ maxLen ∧ at_ ≤ l.length ∧ l.length ≤ 140737488351232 ∧ Sl w g A (vbytes l) ∧ (∀ a, A = some a → lo ≤ a.block)
theorem reads_keep {w w' : World} {lo g g' : Nat} {l : List UInt8} {at_ : Nat} {bad : Bool} (h : Reads w lo g l at_ bad) (hg : w.grownBy w' (some g')) (hlt : g < w.heap.size) (hne : g' ≠ g) (hout : g' < lo ∨ g ≤ g') : Reads w' lo g l at_ bad := by
  obtain ⟨A, c, h1, h2, h3, h4, h4', h5, h6⟩ := h
  refine ⟨A, c, (hg.block g hlt (by simpa using Ne.symm hne)).trans h1, h2, h3, h4, h4', fun hn => ?_, h6⟩
  obtain ⟨b, off, rfl, hb, hc⟩ := h5 hn
  have hlo := h6 _ rfl
  refine ⟨b, off, rfl, hb, fun i x hx => ?_⟩
  refine (World.cell?_of_block (hg.block b (by omega) (by simp; show b ≠ g'; have hlo' : lo ≤ b := hlo; omega))).trans (hc i x hx)
theorem reads_lt {w : World} {lo g : Nat} {l : List UInt8} {at_ : Nat} {bad : Bool} (h : Reads w lo g l at_ bad) : g < w.heap.size := by
  obtain ⟨A, c, h1, _⟩ := h
  exact (Array.getElem?_eq_some_iff.1 h1).1
theorem reads_below {w w' : World} {lo g B : Nat} {l : List UInt8} {at_ : Nat} {bad : Bool} (h : Reads w lo g l at_ bad) (hb : Below B w w') (hB : g < B) : Reads w' lo g l at_ bad := by
  obtain ⟨A, c, h1, h2, h3, h4, h4', h5, h6⟩ := h
  exact ⟨A, c, (hb.block g hB).trans h1, h2, h3, h4, h4', h5.keep fun p hp => hb.cell (by omega), h6⟩
theorem reads_drawn {w w' : World} {lo g : Nat} {l : List UInt8} {at_ : Nat} {bad : Bool} (h : Reads w lo g l at_ bad) (hd : Drawn w w') : Reads w' lo g l at_ bad := by
  obtain ⟨n, rfl⟩ := hd; exact h
/-- A new reader. -/
def RdPost (w : World) (l : List UInt8) (e : Ending) (w' : World) : Prop := ∃ g, e = .returned (.pointer (some ⟨g, 0, none⟩)) ∧ Reads w' w.heap.size g l 0 false ∧ w.heap.size ≤ g ∧ Below w.heap.size w w'
/-- A call of a reader's method: its answer, and where the reader stands; nothing else has turned. -/
def RdStep (w : World) (lo g : Nat) (l : List UInt8) (r : Value) (at_ : Nat) (bad : Bool) (e : Ending) (w' : World) : Prop := e = .returned r ∧ Reads w' lo g l at_ bad ∧ w.grownBy w' (some g)
theorem read_any (a : Option Addr) (c n : Nat) (l : List UInt8) (hn : l.length = n) (w : World) (hl : l.length ≤ 140737488351232) (hs : Sl w w.heap.size a (vbytes l)) :
    Calls Try.prog 15 #[.slice a n c] w (RdPost w l) := by
  have HC := hide (clone_any a c n l hn w hl hs)
  have HL := hide hl
  clear hs hl hn
  go_enter Try.func15, Try.ntmps15
  go_wp2_with fail
  refine HC.out.mono ?_
  rintro e w1 ⟨v, rfl, hown, hb1⟩
  have HO := hide hown
  have HB := hide hb1
  clear hown hb1 HC
  obtain ⟨A, c', rfl, hnc, hsl, hlo⟩ := own_slice HO.out
  have hcm : c' ≤ maxLen := by
    rcases HO.out.2 with ⟨e, _⟩ | ⟨g, cap, cur, e, _, _, _, hcm, _⟩
    · injection e with _ _ e3; rw [e3]; unfold maxLen; omega
    · injection e with _ _ e3; rw [e3]; exact hcm
  have H1 := hide hnc
  have H2 := hide hsl
  have H3 := hide hlo
  have H4 := hide hcm
  clear hnc hsl hlo hcm
  go_wp2
  go_ret
  refine ⟨w1.heap.size, rfl, ⟨A, c', heap_alloc_new w1 _, H1.out, H4.out, Nat.zero_le _, HL.out, (H2.out).below ((Below.refl _ _).alloc (Nat.le_refl _) _), H3.out⟩, HB.out.size, HB.out.alloc HB.out.size _⟩
theorem at_any (lo g : Nat) (l : List UInt8) (at_ : Nat) (bad : Bool) (w : World) (h : Reads w lo g l at_ bad) :
    Calls Try.prog 22 #[.pointer (some ⟨g, 0, none⟩)] w fun e w' => e = .returned (.int .i64 at_) ∧ w = w' := by
  obtain ⟨A, c, h1, _⟩ := h
  have c1 : w.cell? ⟨g, 1, none⟩ = some (.int .i64 at_) := by simp [World.cell?, h1]
  clear h1
  go_enter Try.func22, Try.ntmps22
  go_wp2
  go_ret
  exact ⟨rfl, rfl⟩
def wrongN (bad : Bool) : Int := bif bad then 7 else 0
theorem wrong_any (lo g : Nat) (l : List UInt8) (at_ : Nat) (bad : Bool) (w : World) (h : Reads w lo g l at_ bad) :
    Calls Try.prog 21 #[.pointer (some ⟨g, 0, none⟩)] w fun e w' => e = .returned (.int .i64 (wrongN bad)) ∧ w = w' := by
  obtain ⟨A, c, h1, _⟩ := h
  have c1 : w.cell? ⟨g, 2, none⟩ = some (.bool bad) := by simp [World.cell?, h1]
  clear h1
  rcases bad with _ | _
  all_goals
    go_enter Try.func21, Try.ntmps21
    go_wp2
    go_ret
    exact ⟨rfl, rfl⟩
theorem end_any (lo g : Nat) (l : List UInt8) (at_ : Nat) (bad : Bool) (w : World) (h : Reads w lo g l at_ bad) :
    Calls Try.prog 29 #[.pointer (some ⟨g, 0, none⟩)] w fun e w' => e = .returned (.int .i64 (if at_ < l.length then 7 else wrongN bad)) ∧ Drawn w w' := by
  have hW := hide (fun n => wrong_any lo g l at_ bad (w.drewN n) (reads_drawn h ⟨n, rfl⟩))
  obtain ⟨A, c, h1, h2, h3, h4, h4', _⟩ := h
  have c1 : w.cell? ⟨g, 1, none⟩ = some (.int .i64 at_) := by simp [World.cell?, h1]
  have c0 : w.cell? ⟨g, 0, none⟩ = some (.slice A l.length c) := by simp [World.cell?, h1]
  clear h1 h3
  by_cases hlt : at_ < l.length
  · rw [if_pos hlt]
    go_enter Try.func29, Try.ntmps29
    go_wp2
    go_quiet (fail)
    go_wp2
    go_ret
    exact ⟨rfl, _, rfl⟩
  · rw [if_neg hlt]
    go_enter Try.func29, Try.ntmps29
    go_wp2
    go_quiet (fail)
    go_wp2_with fail
    refine (hW.out _).mono ?_
    rintro e w' ⟨rfl, rfl⟩
    go_wp2
    go_ret
    exact ⟨rfl, _, rfl⟩
end Go.Proofs.Ytinlnfhicnejmaa
