/-
  LAYER 11, PLAIN: of a right request. No condition.
-/
import Derived.Test.YtjaofdalmjiliaaAkNew
import Derived.Test.YtjaofdalmjiliaaAkSame
namespace Go.Proofs.Ytjaofdalmjiliaa
open Go.RowKit

theorem eqL_refl (l : List V3) : eqL l l = true := decide_eq_true rfl
theorem bag_of_right {l : List Gm} (h : rightG (gvs l) = 0) {k : Nat} (hk : k < l.length) : bagG (gvs l) l[k].cat l[k].name = l[k].bag := by
  have hk' : k < (gvs l).length := by rw [gvs_len]; exact hk
  have h1 := (((right_ok (gvs l)).1 h).2 k hk').2
  rw [gvs_at l k hk] at h1
  have h2 : idxG (gvs l) l[k].cat l[k].name = k := h1
  have h3 := bag_at (l := gvs l) (cat := l[k].cat) (name := l[k].name) (by rw [h2]; exact hk')
  rw [h3]
  simp only [h2, gvs_at l k hk]
  rfl
theorem bag_absent {l : List Gv} (h : rightG l = 0) (c : Int) (hc : 4 < c) (n : ByteArray) : bagG l c n = [] := by
  refine bag_none ?_
  intro h0
  have h1 := idx_at h0
  have h2 := fit_cat (((right_ok l).1 h).2 _ h0).1
  omega
theorem codeG_no (bag : List V3) : codeG bag false = 0 := if_neg (fun h => absurd h.2 (by decide))
theorem codeG_yes (bag : List V3) (h : bag = []) : codeG bag true = 4 := if_pos ⟨h, rfl⟩
theorem codeG_full (bag : List V3) (m : Bool) (h : ¬ bag = []) : codeG bag m = 0 := if_neg (fun h2 => h h2.1)
theorem rightFrom_skip (L : List Gv) : ∀ (r s : List Gv) (i : Nat), (∀ k (hk : k < r.length), fitG r[k] = true ∧ i + k ≤ idxG L r[k].1 r[k].2.1) → rightFrom L (r ++ s) i = rightFrom L s (i + r.length)
  | [], s, i, _ => rfl
  | g :: r, s, i, h => by
    have h0 := h 0 (by simp)
    rw [List.getElem_cons_zero] at h0
    show (if fitG g = false then 1 else if idxG L g.1 g.2.1 < i then 11 else rightFrom L (r ++ s) (i + 1)) = _
    rw [if_neg (by rw [h0.1]; decide), if_neg (by omega), rightFrom_skip L r s (i + 1) (fun k hk => by
      have := h (k + 1) (by simpa using hk)
      rw [List.getElem_cons_succ] at this
      exact ⟨this.1, by omega⟩)]
    rw [show i + 1 + r.length = i + (g :: r).length by simp; omega]
theorem idx_append {l : List Gv} {c : Int} {n : ByteArray} (s : List Gv) (h : idxG l c n < l.length) : idxG (l ++ s) c n = idxG l c n := by
  have h' : l.findIdx (isG c n) < l.length := h
  unfold idxG
  rw [List.findIdx_append, if_pos h']
/-- Given twice it isn't right. -/
theorem right_twice {l : List Gv} (h : rightG l = 0) {j : Nat} (hj : j < l.length) : rightG (l ++ [l[j]]) = if l.length = 64 then 6 else 11 := by
  obtain ⟨hlen, hall⟩ := (right_ok l).1 h
  unfold rightG
  by_cases h64 : l.length = 64
  · rw [if_pos (by simp; omega), if_pos h64]
  · rw [if_neg (by simp; omega), if_neg h64, rightFrom_skip (l ++ [l[j]]) l [l[j]] 0 (fun k hk => by
      obtain ⟨h1, h2⟩ := hall k hk
      exact ⟨h1, by rw [idx_append _ (by rw [h2]; exact hk), h2]; omega⟩)]
    unfold rightFrom
    obtain ⟨h1, h2⟩ := hall j hj
    rw [if_neg (by rw [h1]; decide), idx_append _ (by rw [h2]; exact hj), h2, if_pos (by omega)]
end Go.Proofs.Ytjaofdalmjiliaa
