/-
  CONTRACT OF ask.copied: a request in new memory.
-/
import Derived.Test.YtjaofdalmjiliaaAkNew
import Derived.Laws.OwnMore
namespace Go.Proofs.Ytjaofdalmjiliaa
open Go.RowKit
set_option linter.unusedVariables false

theorem cellsG_set (p r : List Gm) (x : Gm) (a : Option Addr) (c : Nat) : (cellsG (p ++ x :: r)).set (p.length * 3 + 2) (.slice a x.bag.length c) = cellsG (p ++ ⟨x.cat, x.name, a, c, x.bag⟩ :: r) := by
  rw [cellsG_append, cellsG_append, List.set_append_right _ _ (by rw [cellsG_len]; omega), cellsG_len, show p.length * 3 + 2 - p.length * 3 = 2 by omega]
  rfl
theorem cellsG_three (p r : List Gm) (x : Gm) : (cellsG (p ++ x :: r))[p.length * 3]? = some (.int .i64 x.cat) ∧ (cellsG (p ++ x :: r))[p.length * 3 + 1]? = some (.string x.name) ∧ (cellsG (p ++ x :: r))[p.length * 3 + 2]? = some (.slice x.at_ x.bag.length x.cap) := by
  rw [cellsG_append]
  refine ⟨?_, ?_, ?_⟩ <;> rw [List.getElem?_append_right (by rw [cellsG_len]; omega), cellsG_len]
  · rw [show p.length * 3 - p.length * 3 = 0 by omega]; rfl
  · rw [show p.length * 3 + 1 - p.length * 3 = 1 by omega]; rfl
  · rw [show p.length * 3 + 2 - p.length * 3 = 2 by omega]; rfl
/-- A copy under way: some bags are its own, the rest lie where they lay. -/
def Copied (w : World) (B : Nat) (v : Value) (l r : List Gm) : Prop := w.ownsRow B 40 3 v (l.length + r.length) (cellsG (l ++ r)) ∧ ∀ x ∈ l, NewG w B x
theorem Copied.row {w : World} {B : Nat} {v : Value} {l r : List Gm} {x : Gm} (h : Copied w B v l (x :: r)) :
    ∃ g c, v = .slice (some ⟨g, 0, none⟩) (l.length + r.length + 1) c ∧ B ≤ g ∧ g < w.heap.size ∧ w.cell? ⟨g, l.length * 3, none⟩ = some (.int .i64 x.cat) ∧ w.cell? ⟨g, l.length * 3 + 1, none⟩ = some (.string x.name) ∧ w.cell? ⟨g, l.length * 3 + 2, none⟩ = some (.slice x.at_ x.bag.length x.cap) ∧ w.frozen? ⟨g, l.length * 3 + 2, none⟩ = false := by
  have h1 := h.1
  rcases h1.2 with ⟨_, e⟩ | ⟨g, cap, cur, rfl, hb, hg, _⟩
  · simp at e
  · have hlt := (Array.getElem?_eq_some_iff.1 hg).1
    obtain ⟨e0, e1, e2⟩ := cellsG_three l r x
    have hlen : (x :: r).length = r.length + 1 := rfl
    have c0 := h1.cellAt (l.length * 3) (by omega)
    have c1 := h1.cellAt (l.length * 3 + 1) (by omega)
    have c2 := h1.cellAt (l.length * 3 + 2) (by omega)
    exact ⟨g, cap, rfl, hb, hlt, c0.trans e0, c1.trans e1, c2.trans e2, h1.frozenAt _⟩
theorem Copied.keep {w w' : World} {B : Nat} {v : Value} {l r : List Gm} (h : Copied w B v l r) (hb : Below w.heap.size w w') : Copied w' B v l r := ⟨own_keep h.1 hb, fun x hx => (h.2 x hx).keep hb⟩
theorem Copied.step {w : World} {B : Nat} {l r : List Gm} {x : Gm} {g c : Nat} {n : Nat} {a : Option Addr} {cc : Nat} (h : Copied w B (.slice (some ⟨g, 0, none⟩) n c) l (x :: r)) (hn : NewG w B ⟨x.cat, x.name, a, cc, x.bag⟩) :
    Copied (w.setCell ⟨g, l.length * 3 + 2, none⟩ (.slice a x.bag.length cc)) B (.slice (some ⟨g, 0, none⟩) n c) (l ++ [⟨x.cat, x.name, a, cc, x.bag⟩]) r := by
  have hnn : n = l.length + (x :: r).length := by
    rcases h.1.2 with ⟨_, e⟩ | ⟨g', cap, cur, e, _⟩
    · simp at e
    · injection e
  have hlen : (x :: r).length = r.length + 1 := rfl
  have hl2 : (l ++ [(⟨x.cat, x.name, a, cc, x.bag⟩ : Gm)]).length + r.length = l.length + (x :: r).length := by rw [List.length_append, hlen]; simp only [List.length_cons, List.length_nil]; omega
  refine ⟨?_, fun y hy => ?_⟩
  · have h1 := h.1
    rw [hnn] at h1 ⊢
    have h2 := (h1.stored (l.length * 3 + 2) (.slice a x.bag.length cc)).1
    rw [cellsG_set] at h2
    rw [hl2]
    simpa using h2
  · rcases List.mem_append.1 hy with hy | hy
    · exact World.ownsRow.kept (h.2 y hy) (grown_set1 w g _ _) (own_ne (h.2 y hy) h.1 (by decide))
    · rw [List.mem_singleton] at hy
      subst hy
      exact World.ownsRow.kept hn (grown_set1 w g _ _) (own_ne hn h.1 (by decide))
theorem drop_at {l : List Gm} {k : Nat} (h : k < l.length) : l.drop k = l[k] :: l.drop (k + 1) := List.drop_eq_getElem_cons h
set_option maxHeartbeats 1000000 in
theorem copied_any (a : Option Addr) (c n : Nat) (l : List Gm) (hn : l.length = n) (w : World) (hl : l.length ≤ 1000000) (hbl : ∀ x ∈ l, x.bag.length ≤ 1000000) (hr : Req w w.heap.size a l) :
    Calls Try.prog 42 #[.slice a n c] w (AsksPost w (gvs l)) := by
  subst hn
  have HC := hide (cloneg_any a c l.length l rfl w hl hr.1)
  have HR := hide hr
  have HBL := hide hbl
  clear hr hbl
  go_enter Try.func42, Try.ntmps42
  go_wp2_with fail
  refine HC.out.mono ?_
  rintro e w1 ⟨v, rfl, hown, hb1⟩
  obtain ⟨A, c1, rfl, _, _, _⟩ := own_slice hown
  have HQ : Hid (Copied w1 w.heap.size (.slice A l.length c1) [] l) := hide ⟨by rw [List.nil_append]; simpa using hown, fun x h => absurd h (by simp)⟩
  have HB := hide hb1
  clear HC hown hb1
  go_wp2
  go_loopw [9] (fun i wr => ∃ (k : Nat) (l' : List Gm), k ≤ l.length ∧ i = .int .i64 k ∧ l'.length = k ∧ Hid (gvs l' = (gvs l).take k) ∧ Hid (Copied wr w.heap.size (.slice A l.length c1) l' (l.drop k)) ∧ Hid (Below w.heap.size w wr)) (fun i _ => l.length - (intOf i).toNat)
  case atStart => exact ⟨0, [], by omega, rfl, rfl, hide rfl, HQ, HB⟩
  case round =>
    clear HQ HB
    obtain ⟨k, l', hk, rfl, hll, HG, HQ, HB⟩ := hrel
    by_cases hlt : k < l.length
    · rw [drop_at hlt] at HQ
      obtain ⟨g, c2, e, hbg, hgl, x0, x1, x2, f2⟩ := HQ.out.row
      injection e with e1 e2 e3
      subst e1 e3
      clear e2
      have HX := hide (HR.out.2 l[k] (List.getElem_mem _))
      have HL := hide (HBL.out l[k] (List.getElem_mem _))
      have HST := hide (gvs_take_step hlt)
      generalize l[k] = x at *
      obtain ⟨xc, xn, xa, xcap, bag⟩ := x
      simp only at x0 x1 x2 HL
      rw [hll] at x0 x1 x2 f2
      have HCL := hide (clonev_any xa xcap bag.length bag rfl wr HL.out ((HX.out.2.2.2.2.1.below HB.out).more HB.out.size))
      go_wp2_with fail
      refine HCL.out.mono ?_
      rintro e w2 ⟨v, rfl, hown, hb2⟩
      obtain ⟨A2, c3, rfl, _, _, _⟩ := own_slice hown
      have HQ2 := hide (HQ.out.keep hb2)
      have HN := hide (own_base hown HB.out.size)
      have y2 := (hb2.cell (p := ⟨g, k * 3 + 2, none⟩) hgl).trans x2
      have g2 := (hb2.frozen (p := ⟨g, k * 3 + 2, none⟩) hgl).trans f2
      have hs2 := hb2.size
      have HB2 := hide (below_on HB.out hb2)
      clear HCL hown hb2 HQ x0 x1 x2 f2 HB
      go_wp2
      go_roundw
      case rel => exact ⟨k + 1, l' ++ [⟨xc, xn, A2, c3, bag⟩], by omega, by go_num, by simp [hll], hide (by rw [gvs_append, HST.out, HG.out]; rfl), hide (by have := HQ2.out.step HN.out; rw [hll] at this; exact this), hide (HB2.out.setCell (show w.heap.size ≤ g from hbg) _)⟩
      case measure => simp [intOf]; omega
    · obtain rfl : k = l.length := by omega
      have HX : Hid (gvs l' = gvs l) := hide (by rw [HG.out, List.take_of_length_le (by rw [gvs_len]; omega)])
      have hq := HQ.out
      rw [List.drop_length] at hq
      have HN : Hid (NewReq wr w.heap.size (.slice A l.length c1) l') := hide ⟨by have := hq.1; rwa [List.append_nil, List.length_nil, Nat.add_zero] at this, hq.2⟩
      clear hq
      go_wp2
      go_ret
      exact ⟨_, l', rfl, HX.out, HN.out, HB.out⟩
end Go.Proofs.Ytjaofdalmjiliaa
