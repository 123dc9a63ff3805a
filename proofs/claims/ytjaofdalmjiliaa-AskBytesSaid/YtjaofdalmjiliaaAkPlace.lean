/-
  CONTRACTS OF ask.place, its closure, and slices.IndexFunc at a request.
-/
import Derived.Test.YtjaofdalmjiliaaAkBag
namespace Go.Proofs.Ytjaofdalmjiliaa
open Go.RowKit
set_option linter.unusedVariables false

theorem str_dec (a b : ByteArray) : (a.toList == b.toList) = decide (a = b) := by
  rw [Bool.eq_iff_iff, beq_iff_eq, decide_eq_true_eq, ByteArray.toList_eq, ByteArray.toList_eq]
  constructor
  · intro h; exact ByteArray.ext (Array.toList_inj.1 h)
  · rintro rfl; rfl
theorem isit_any (x : Gm) (C : Int) (N : ByteArray) (p q : Nat) (w : World) (hp : w.cell? ⟨p, 0, none⟩ = some (.int .i64 C)) (hq : w.cell? ⟨q, 0, none⟩ = some (.string N)) (hpl : p < w.heap.size) (hql : q < w.heap.size) :
    Calls Try.prog 44 #[.agg #[.int .i64 x.cat, .string x.name, .slice x.at_ x.bag.length x.cap], .pointer (some ⟨p, 0, none⟩), .pointer (some ⟨q, 0, none⟩)] w (Told (.bool (isG C N x.gv)) w) := by
  unfold Told
  have h1 : p ≠ w.heap.size := by omega
  have h2 : q ≠ w.heap.size := by omega
  go_enter Try.func44, Try.ntmps44
  go_wp2
  · rename_i h
    go_ret
    refine ⟨?_, below_new _ _⟩
    show Ending.returned (.bool (x.name.toList == N.toList)) = _
    rw [str_dec]
    unfold isG Gm.gv
    rw [decide_eq_true h]
    rfl
  · rename_i h
    go_ret
    refine ⟨?_, below_new _ _⟩
    show Ending.returned (.bool false) = _
    unfold isG Gm.gv
    rw [decide_eq_false h]
    rfl
/-- A request without its places in memory. -/
def gvs (l : List Gm) : List Gv := l.map Gm.gv
theorem gvs_len (l : List Gm) : (gvs l).length = l.length := by unfold gvs; simp
theorem gvs_at (l : List Gm) (i : Nat) (h : i < l.length) : (gvs l)[i]'(by rw [gvs_len]; exact h) = l[i].gv := by unfold gvs; simp
theorem place_hit {l : List Gm} {C : Int} {N : ByteArray} {k : Nat} (hk : k < l.length) (hb : ∀ i (hi : i < l.length), i < k → isG C N l[i].gv = false) (h : isG C N l[k].gv = true) : placeG (gvs l) C N = (k : Int) := by
  have e : idxG (gvs l) C N = k := idx_of (by rw [gvs_len]; exact hk) (by rw [gvs_at l k hk]; exact h) (fun i hi => by rw [gvs_at l i (by omega)]; exact hb i (by omega) hi)
  unfold placeG
  rw [e, if_pos (by rw [gvs_len]; exact hk)]
theorem place_miss {l : List Gm} {C : Int} {N : ByteArray} (hb : ∀ i (hi : i < l.length), i < l.length → isG C N l[i].gv = false) : placeG (gvs l) C N = -1 := by
  have e : idxG (gvs l) C N = (gvs l).length := idx_none (fun i hi => by rw [gvs_at l i (by rw [gvs_len] at hi; exact hi)]; exact hb i (by rw [gvs_len] at hi; exact hi) (by rw [gvs_len] at hi; exact hi))
  unfold placeG
  rw [e, if_neg (by omega)]
set_option maxHeartbeats 1000000 in
theorem index_any (a : Option Addr) (c n : Nat) (l : List Gm) (hn : l.length = n) (C : Int) (N : ByteArray) (p q : Nat) (w : World) (hl : l.length ≤ maxLen) (hr : Req w w.heap.size a l) (hp : w.cell? ⟨p, 0, none⟩ = some (.int .i64 C)) (hq : w.cell? ⟨q, 0, none⟩ = some (.string N)) (hpl : p < w.heap.size) (hql : q < w.heap.size) :
    Calls Try.prog 43 #[.slice a n c, .func (.func 44) #[] #[.pointer (some ⟨p, 0, none⟩), .pointer (some ⟨q, 0, none⟩)]] w (Told (.int .i64 (placeG (gvs l) C N)) w) := by
  subst hn
  unfold maxLen at hl
  unfold Told
  have HS := hide hr
  have HC := hide (fun wr (hb : Below w.heap.size w wr) => (⟨(hb.cell (p := ⟨p, 0, none⟩) hpl).trans hp, (hb.cell (p := ⟨q, 0, none⟩) hql).trans hq, Nat.lt_of_lt_of_le hpl hb.size, Nat.lt_of_lt_of_le hql hb.size⟩ : wr.cell? ⟨p, 0, none⟩ = some (.int .i64 C) ∧ wr.cell? ⟨q, 0, none⟩ = some (.string N) ∧ p < wr.heap.size ∧ q < wr.heap.size))
  clear hr hp hq hpl hql
  go_enter Try.func43, Try.ntmps43
  go_wp2
  go_loopw [5, 8] (fun _ i wr => ∃ k : Nat, k ≤ l.length ∧ i = .int .i64 k ∧ Hid (∀ i (hi : i < l.length), i < k → isG C N l[i].gv = false) ∧ Hid (Below w.heap.size w wr)) (fun _ i _ => l.length - (intOf i).toNat)
  case atStart => exact ⟨0, by omega, rfl, hide (fun i _ h => absurd h (by omega)), hide (Below.refl _ _)⟩
  case round =>
    obtain ⟨k, hk, rfl, HR, HB⟩ := hrel
    by_cases hlt : k < l.length
    · obtain ⟨b, off, rfl, hb, x0, x1, x2⟩ := (HS.out.below HB.out).at hlt
      obtain ⟨c1, c2, c3, c4⟩ := HC.out wr HB.out
      have HI := hide (isit_any l[k] C N p q wr c1 c2 c3 c4)
      have HL : Hid (∀ g, isG C N l[k].gv = g → ((if g = true then placeG (gvs l) C N = (k : Int) else ∀ i (hi : i < l.length), i < k + 1 → isG C N l[i].gv = false) : Prop)) := hide (fun g hg => by
        cases g
        · rw [if_neg (by decide)]
          intro i hi h
          rcases Nat.lt_or_ge i k with h1 | h1
          · exact HR.out i hi h1
          · obtain rfl : i = k := by omega
            exact hg
        · rw [if_pos rfl]
          exact place_hit hlt HR.out hg)
      clear c1 c2 c3 c4 HR
      generalize hx : l[k] = x at *
      generalize isG C N x.gv = g at *
      go_wp2_with fail
      refine HI.out.mono ?_
      rintro e w' ⟨rfl, hb'⟩
      have HB' := hide (below_on HB.out hb')
      clear HI hb'
      cases g
      · have HF := hide (HL.out false rfl)
        clear HL
        go_wp2
        go_roundw
        case rel => exact ⟨k + 1, by omega, by go_num, hide (by have := HF.out; rwa [if_neg (by decide)] at this), HB'⟩
        case measure => simp [intOf]; omega
      · have HF := hide (HL.out true rfl)
        clear HL
        go_wp2
        go_ret
        exact ⟨by have := HF.out; rw [if_pos trivial] at this; rw [this]; rfl, HB'.out⟩
    · obtain rfl : k = l.length := by omega
      have HF := hide (place_miss HR.out)
      clear HR
      go_wp2
      go_ret
      exact ⟨by rw [HF.out]; rfl, HB.out⟩
theorem two_cells (w : World) (u v : Value) (t s : TypeId) : ((w.alloc (.cells #[u] t)).alloc (.cells #[v] s)).cell? ⟨w.heap.size, 0, none⟩ = some u ∧ ((w.alloc (.cells #[u] t)).alloc (.cells #[v] s)).cell? ⟨w.heap.size + 1, 0, none⟩ = some v ∧ w.heap.size < ((w.alloc (.cells #[u] t)).alloc (.cells #[v] s)).heap.size ∧ w.heap.size + 1 < ((w.alloc (.cells #[u] t)).alloc (.cells #[v] s)).heap.size ∧
    Below w.heap.size w ((w.alloc (.cells #[u] t)).alloc (.cells #[v] s)) := by
  have hb : Below w.heap.size w ((w.alloc (.cells #[u] t)).alloc (.cells #[v] s)) := below_on (below_new w _) (below_new _ _)
  have hz : (w.alloc (.cells #[u] t)).heap.size = w.heap.size + 1 := by simp
  refine ⟨?_, ?_, by simp; omega, by simp, hb⟩
  · exact ((below_new (w.alloc (.cells #[u] t)) (.cells #[v] s)).cell (p := ⟨w.heap.size, 0, none⟩) (by simp)).trans (new_cell w #[u] t _ 0 u rfl)
  · have := new_cell (w.alloc (.cells #[u] t)) #[v] s (0, 0) 0 v rfl
    rwa [hz] at this
set_option maxHeartbeats 1000000 in
theorem place_any (a : Option Addr) (c n : Nat) (l : List Gm) (hn : l.length = n) (C : Int) (N : ByteArray) (w : World) (hl : l.length ≤ maxLen) (hr : Req w w.heap.size a l) :
    Calls Try.prog 22 #[.slice a n c, .int .i64 C, .string N] w (Told (.int .i64 (placeG (gvs l) C N)) w) := by
  obtain ⟨h1, h2, h3, h4, h5⟩ := two_cells w (.int .i64 C) (.string N) 3 9
  have HI := hide (index_any a c n l hn C N w.heap.size (w.heap.size + 1) _ hl (hr.on h5) h1 h2 h3 h4)
  have HB := hide h5
  clear h1 h2 h3 h4 h5 hr
  unfold Told
  go_enter Try.func22, Try.ntmps22
  go_wp2_with fail
  refine HI.out.mono ?_
  rintro e w' ⟨rfl, hb'⟩
  have HB' := hide (below_on HB.out hb')
  clear HI hb' HB
  go_wp2
  go_ret
  exact ⟨rfl, HB'.out⟩
end Go.Proofs.Ytjaofdalmjiliaa
