/-
  SORTING, PLAIN: the order of attributes; rows cut and put together. No condition.
-/
import Derived.Test.YtjaofdalmjiliaaAkCmp
namespace Go.Proofs.Ytjaofdalmjiliaa
open Go.RowKit

theorem u8_lt_trans {a b c : UInt8} (h : a < b) (k : b < c) : a < c := by
  rw [UInt8.lt_iff_toNat_lt] at *; omega
theorem u8_tri (a b : UInt8) : a < b ∨ a = b ∨ b < a := by
  rcases Nat.lt_trichotomy a.toNat b.toNat with h | h | h
  · exact .inl (UInt8.lt_iff_toNat_lt.2 h)
  · exact .inr (.inl (UInt8.toNat_inj.1 h))
  · exact .inr (.inr (UInt8.lt_iff_toNat_lt.2 h))
theorem u8_irr (a : UInt8) : ¬ a < a := by rw [UInt8.lt_iff_toNat_lt]; omega
theorem lx_irr : ∀ (x : List UInt8), ¬ x < x
  | [] => by simp
  | a :: x => by
    rw [List.cons_lt_cons_iff]
    rintro (h | ⟨_, h⟩)
    · exact u8_irr a h
    · exact lx_irr x h
theorem lx_trans : ∀ {x y z : List UInt8}, x < y → y < z → x < z
  | [], [], _, h, _ => by simp at h
  | [], _ :: _, [], _, k => by simp at k
  | [], _ :: _, _ :: _, _, _ => by simp
  | _ :: _, [], _, h, _ => by simp at h
  | _ :: _, _ :: _, [], _, k => by simp at k
  | a :: x, b :: y, c :: z, h, k => by
    rw [List.cons_lt_cons_iff] at *
    rcases h with h | ⟨rfl, h⟩ <;> rcases k with k | ⟨rfl, k⟩
    · exact .inl (u8_lt_trans h k)
    · exact .inl h
    · exact .inl k
    · exact .inr ⟨rfl, lx_trans h k⟩
theorem lx_tri : ∀ (x y : List UInt8), x < y ∨ x = y ∨ y < x
  | [], [] => .inr (.inl rfl)
  | [], _ :: _ => .inl (by simp)
  | _ :: _, [] => .inr (.inr (by simp))
  | a :: x, b :: y => by
    rw [List.cons_lt_cons_iff, List.cons_lt_cons_iff]
    rcases u8_tri a b with h | rfl | h
    · exact .inl (.inl h)
    · rcases lx_tri x y with h | rfl | h
      · exact .inl (.inr ⟨rfl, h⟩)
      · exact .inr (.inl rfl)
      · exact .inr (.inr (.inr ⟨rfl, h⟩))
    · exact .inr (.inr (.inl h))
/-- Does an attribute stand ahead of another one? -/
def Lt (x y : Gm) : Prop := x.cat < y.cat ∨ (x.cat = y.cat ∧ x.name.toList < y.name.toList)
theorem cmpI_neg {a b : Int} : cmpI a b < 0 ↔ a < b := by unfold cmpI; (repeat' split) <;> omega
theorem cmpI_zero {a b : Int} : cmpI a b = 0 ↔ a = b := by unfold cmpI; (repeat' split) <;> omega
theorem cmpS_neg {a b : ByteArray} : cmpS a b < 0 ↔ a.toList < b.toList := by
  unfold cmpS
  split
  · rename_i h; exact ⟨fun _ => h, fun _ => by decide⟩
  · rename_i h; split <;> exact ⟨fun h2 => absurd h2 (by decide), fun h2 => absurd h2 h⟩
theorem cmpG_neg {x y : Gm} : cmpG x y < 0 ↔ Lt x y := by
  unfold cmpG Lt
  split
  · rename_i h
    rw [cmpI_zero] at h
    rw [cmpS_neg]
    exact ⟨fun h2 => .inr ⟨h, h2⟩, fun h2 => h2.elim (fun h2 => absurd h2 (by omega)) (fun h2 => h2.2)⟩
  · rename_i h
    rw [cmpI_zero] at h
    rw [cmpI_neg]
    exact ⟨fun h2 => .inl h2, fun h2 => h2.elim (fun h2 => h2) (fun h2 => absurd h2.1 h)⟩
theorem Lt.irr (x : Gm) : ¬ Lt x x := by
  rintro (h | ⟨_, h⟩)
  · omega
  · exact lx_irr _ h
theorem Lt.trans {x y z : Gm} (h : Lt x y) (k : Lt y z) : Lt x z := by
  rcases h with h | ⟨h1, h⟩ <;> rcases k with k | ⟨k1, k⟩
  · exact .inl (by omega)
  · exact .inl (by omega)
  · exact .inl (by omega)
  · exact .inr ⟨by omega, lx_trans h k⟩
theorem bytes_toList_inj {a b : ByteArray} (h : a.toList = b.toList) : a = b := by
  have := str_dec a b
  rw [h] at this
  simpa using this
/-- Not behind. -/
def Le (x y : Gm) : Prop := ¬ Lt y x
theorem Lt.tri (x y : Gm) : Lt x y ∨ (x.cat = y.cat ∧ x.name = y.name) ∨ Lt y x := by
  unfold Lt
  rcases Int.lt_trichotomy x.cat y.cat with h | h | h
  · exact .inl (.inl h)
  · rcases lx_tri x.name.toList y.name.toList with k | k | k
    · exact .inl (.inr ⟨h, k⟩)
    · exact .inr (.inl ⟨h, bytes_toList_inj k⟩)
    · exact .inr (.inr (.inr ⟨h.symm, k⟩))
  · exact .inr (.inr (.inl h))
theorem Lt.le {x y : Gm} (h : Lt x y) : Le x y := fun k => Lt.irr _ (h.trans k)
theorem Le.refl (x : Gm) : Le x x := Lt.irr x
theorem lt_congr_left {x y z : Gm} (e1 : x.cat = y.cat) (e2 : x.name = y.name) (h : Lt x z) : Lt y z := by unfold Lt at *; rw [← e1, ← e2]; exact h
theorem lt_congr_right {x y z : Gm} (e1 : x.cat = y.cat) (e2 : x.name = y.name) (h : Lt z x) : Lt z y := by unfold Lt at *; rw [← e1, ← e2]; exact h
theorem Le.lt_trans {x y z : Gm} (h : Le x y) (k : Lt y z) : Lt x z := by
  rcases Lt.tri x y with h1 | ⟨e1, e2⟩ | h1
  · exact h1.trans k
  · exact lt_congr_left e1.symm e2.symm k
  · exact absurd h1 h
theorem Lt.le_trans {x y z : Gm} (h : Lt x y) (k : Le y z) : Lt x z := by
  rcases Lt.tri y z with h1 | ⟨e1, e2⟩ | h1
  · exact h.trans h1
  · exact lt_congr_right e1 e2 h
  · exact absurd h1 k
theorem Le.trans {x y z : Gm} (h : Le x y) (k : Le y z) : Le x z := fun hz => h (Le.lt_trans k hz)
/-- In order. -/
def Up (l : List Gm) : Prop := l.Pairwise Le
theorem Up.append {l m : List Gm} (hl : Up l) (hm : Up m) (h : ∀ x ∈ l, ∀ y ∈ m, Le x y) : Up (l ++ m) := List.pairwise_append.2 ⟨hl, hm, h⟩
theorem up_at {l : List Gm} (h : Up l) {i j : Nat} (hij : i < j) (hj : j < l.length) : Le (l[i]'(by omega)) l[j] := (List.pairwise_iff_getElem.1 h) i j (by omega) hj hij
theorem up_at_le {l : List Gm} (h : Up l) {i j : Nat} (hij : i ≤ j) (hj : j < l.length) : Le (l[i]'(by omega)) l[j] := by
  rcases Nat.lt_or_eq_of_le hij with h1 | rfl
  · exact up_at h h1 hj
  · exact Le.refl _
end Go.Proofs.Ytjaofdalmjiliaa
