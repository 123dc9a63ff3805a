/-
  CONTRACT OF Reader.Fail; what numbers are parsed of.
-/
import Derived.Test.YtinlnfhicnejmaaPkRd
import Derived.Outline
namespace Go.Proofs.Ytinlnfhicnejmaa
open Go.RowKit
set_option linter.unusedVariables false

theorem grown_set (w : World) (g j : Nat) (u : Value) : w.grownBy (w.setCell ⟨g, j, none⟩ u) (some g) :=
  ⟨rfl, rfl, rfl, by simp, fun k _ hk => heap_setCell_other w ⟨g, j, none⟩ k u (fun e => hk (by simp [e]))⟩
theorem grown_trans' {a b c : World} {row : Option Nat} (h : a.grownBy b row) (k : b.grownBy c row) : a.grownBy c row :=
  ⟨k.os.trans h.os, k.tape.trans h.tape, k.output.trans h.output, Nat.le_trans h.size k.size, fun i hi hne => (k.block i (Nat.lt_of_lt_of_le hi h.size) hne).trans (h.block i hi hne)⟩
theorem grown_drawn {a b c : World} {row : Option Nat} (h : a.grownBy b row) (k : Drawn b c) : a.grownBy c row := by
  obtain ⟨n, rfl⟩ := k; exact ⟨h.os, h.tape, h.output, h.size, h.block⟩
theorem grown_of_drawn {a b : World} (k : Drawn a b) (row : Option Nat) : a.grownBy b row := by
  obtain ⟨n, rfl⟩ := k; exact ⟨rfl, rfl, rfl, Nat.le_refl _, fun _ _ _ => rfl⟩
theorem sl_low {w w' : World} {lo g : Nat} {A : Option Addr} {xs : List Value} (h : Sl w g A xs) (hg : w.grownBy w' (some g)) (hlt : g < w.heap.size) : Sl w' g A xs := fun hn => by
  obtain ⟨b, off, rfl, hb, hc⟩ := h hn
  exact ⟨b, off, rfl, hb, fun i x hx => (World.cell?_of_block (hg.block b (by omega) (by simp; omega))).trans (hc i x hx)⟩
theorem reads_set {w : World} {lo g : Nat} {l : List UInt8} {at_ : Nat} {bad : Bool} (h : Reads w lo g l at_ bad) (k : Nat) (hk : k ≤ l.length) : Reads (w.setCell ⟨g, 1, none⟩ (.int .i64 (k : Nat))) lo g l k bad := by
  have hlt := reads_lt h
  obtain ⟨A, c, h1, h2, h3, h4, h4', h5, h6⟩ := h
  exact ⟨A, c, by rw [heap_setCell_same w g 1 _ _ _ h1]; rfl, h2, h3, hk, h4', sl_low (lo := lo) h5 (grown_set w g 1 _) hlt, h6⟩
theorem reads_bad {w : World} {lo g : Nat} {l : List UInt8} {at_ : Nat} {bad : Bool} (h : Reads w lo g l at_ bad) (b : Bool) : Reads (w.setCell ⟨g, 2, none⟩ (.bool b)) lo g l at_ b := by
  have hlt := reads_lt h
  obtain ⟨A, c, h1, h2, h3, h4, h4', h5, h6⟩ := h
  exact ⟨A, c, by rw [heap_setCell_same w g 2 _ _ _ h1]; rfl, h2, h3, h4, h4', sl_low (lo := lo) h5 (grown_set w g 2 _) hlt, h6⟩
theorem fail_any (lo g : Nat) (l : List UInt8) (at_ k : Nat) (hk : k ≤ at_) (bad : Bool) (w : World) (h : Reads w lo g l at_ bad) :
    Calls Try.prog 44 #[.pointer (some ⟨g, 0, none⟩), .int .i64 k] w (RdStep w lo g l (.tuple #[]) (bif bad then at_ else k) true) := by
  have H := hide h
  obtain ⟨A, c, h1, h2, h3, h4, h4', _⟩ := h
  have c1 : w.cell? ⟨g, 1, none⟩ = some (.int .i64 at_) := by simp [World.cell?, h1]
  have c2 : w.cell? ⟨g, 2, none⟩ = some (.bool bad) := by simp [World.cell?, h1]
  have f1 : w.frozen? ⟨g, 1, none⟩ = false := frozen_of_row w g 1 _ _ h1
  have f2 : w.frozen? ⟨g, 2, none⟩ = false := frozen_of_row w g 2 _ _ h1
  have hkk : (k : Int) ≤ (at_ : Int) := by omega
  have hk0 : (0 : Int) ≤ (k : Int) := by omega
  have h4i : at_ ≤ 140737488351232 := by omega
  clear h1 h3
  rcases bad with _ | _
  · go_enter Try.func44, Try.ntmps44
    go_wp2
    go_end0
    refine ⟨rfl, reads_bad (reads_set H.out k (by omega)) true, grown_trans' (grown_set w g 1 _) (grown_set _ g 2 _)⟩
  · go_enter Try.func44, Try.ntmps44
    go_wp2
    go_end0
    exact ⟨rfl, H.out, World.grownBy.refl w _⟩
end Go.Proofs.Ytinlnfhicnejmaa
