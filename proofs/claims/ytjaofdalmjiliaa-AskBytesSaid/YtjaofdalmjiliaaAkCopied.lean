/-
  CONTRACT OF ask.copied: a request in new memory.
  CONTRACT OF ask.With: a request in new memory with an attribute instead of what is there.
-/
import Derived.Test.YtjaofdalmjiliaaAkNew
import Derived.Laws.OwnMore
import Derived.Test.YtjaofdalmjiliaaAskGetsW
namespace Go.Proofs.Ytjaofdalmjiliaa
open Go.RowKit
set_option linter.unusedVariables false

theorem cellsG_set (p r : List Gm) (x : Gm) (a : Option Addr) (c : Nat) : (cellsG (p ++ x :: r)).set (p.length * 3 + 2) (.slice a x.bag.length c) = cellsG (p ++ ⟨x.cat, x.name, a, c, x.bag⟩ :: r) := by
  rw [cellsG_append, cellsG_append, List.set_append_right _ _ (by rw [cellsG_len]; omega), cellsG_len, show p.length * 3 + 2 - p.length * 3 = 2 by omega]
  rfl
theorem cellsG_three (p r : List Gm) (x : Gm) : (cellsG (p ++ x :: r))[p.length * 3]? = some (.int .i64 x.cat) ∧ (cellsG (p ++ x :: r))[p.length * 3 + 1]? = some (.string x.name) ∧ (cellsG (p ++ x :: r))[p.length * 3 + 2]? = some (.slice x.at_ x.bag.length x.cap) := by
  rw [cellsG_append]
  refine ⟨?_, ?_, ?_⟩ <;> rw [List.getElem?_append_right (by rw [cellsG_len]; omega), cellsG_len]
  · rw [show p.length * 3 - p.length * 3 = 0 by omega]; rfl
  · rw [show p.length * 3 + 1 - p.length * 3 = 1 by omega]; rfl
  · rw [show p.length * 3 + 2 - p.length * 3 = 2 by omega]; rfl
/-- A copy under way: some bags are its own, the rest lie where they lay. -/
def Copied (w : World) (B : Nat) (v : Value) (l r : List Gm) : Prop := w.ownsRow B 40 3 v (l.length + r.length) (cellsG (l ++ r)) ∧ ∀ x ∈ l, NewG w B x
theorem Copied.row {w : World} {B : Nat} {v : Value} {l r : List Gm} {x : Gm} (h : Copied w B v l (x :: r)) :
    ∃ g c, v = .slice (some ⟨g, 0, none⟩) (l.length + r.length + 1) c ∧ B ≤ g ∧ g < w.heap.size ∧ w.cell? ⟨g, l.length * 3, none⟩ = some (.int .i64 x.cat) ∧ w.cell? ⟨g, l.length * 3 + 1, none⟩ = some (.string x.name) ∧ w.cell? ⟨g, l.length * 3 + 2, none⟩ = some (.slice x.at_ x.bag.length x.cap) ∧ w.frozen? ⟨g, l.length * 3 + 2, none⟩ = false := by
  have h1 := h.1
  rcases h1.2 with ⟨_, e⟩ | ⟨g, cap, cur, rfl, hb, hg, _⟩
  · simp at e
  · have hlt := (Array.getElem?_eq_some_iff.1 hg).1
    obtain ⟨e0, e1, e2⟩ := cellsG_three l r x
    have hlen : (x :: r).length = r.length + 1 := rfl
    have c0 := h1.cellAt (l.length * 3) (by omega)
    have c1 := h1.cellAt (l.length * 3 + 1) (by omega)
    have c2 := h1.cellAt (l.length * 3 + 2) (by omega)
    exact ⟨g, cap, rfl, hb, hlt, c0.trans e0, c1.trans e1, c2.trans e2, h1.frozenAt _⟩
theorem Copied.keep {w w' : World} {B : Nat} {v : Value} {l r : List Gm} (h : Copied w B v l r) (hb : Below w.heap.size w w') : Copied w' B v l r := ⟨own_keep h.1 hb, fun x hx => (h.2 x hx).keep hb⟩
theorem Copied.step {w : World} {B : Nat} {l r : List Gm} {x : Gm} {g c : Nat} {n : Nat} {a : Option Addr} {cc : Nat} (h : Copied w B (.slice (some ⟨g, 0, none⟩) n c) l (x :: r)) (hn : NewG w B ⟨x.cat, x.name, a, cc, x.bag⟩) :
    Copied (w.setCell ⟨g, l.length * 3 + 2, none⟩ (.slice a x.bag.length cc)) B (.slice (some ⟨g, 0, none⟩) n c) (l ++ [⟨x.cat, x.name, a, cc, x.bag⟩]) r := by
  have hnn : n = l.length + (x :: r).length := by
    rcases h.1.2 with ⟨_, e⟩ | ⟨g', cap, cur, e, _⟩
    · simp at e
    · injection e
  have hlen : (x :: r).length = r.length + 1 := rfl
  have hl2 : (l ++ [(⟨x.cat, x.name, a, cc, x.bag⟩ : Gm)]).length + r.length = l.length + (x :: r).length := by rw [List.length_append, hlen]; simp only [List.length_cons, List.length_nil]; omega
  refine ⟨?_, fun y hy => ?_⟩
  · have h1 := h.1
    rw [hnn] at h1 ⊢
    have h2 := (h1.stored (l.length * 3 + 2) (.slice a x.bag.length cc)).1
    rw [cellsG_set] at h2
    rw [hl2]
    simpa using h2
  · rcases List.mem_append.1 hy with hy | hy
    · exact World.ownsRow.kept (h.2 y hy) (grown_set1 w g _ _) (own_ne (h.2 y hy) h.1 (by decide))
    · rw [List.mem_singleton] at hy
      subst hy
      exact World.ownsRow.kept hn (grown_set1 w g _ _) (own_ne hn h.1 (by decide))
theorem drop_at {l : List Gm} {k : Nat} (h : k < l.length) : l.drop k = l[k] :: l.drop (k + 1) := List.drop_eq_getElem_cons h
set_option maxHeartbeats 1000000 in
theorem copied_any (a : Option Addr) (c n : Nat) (l : List Gm) (hn : l.length = n) (w : World) (hl : l.length ≤ 1000000) (hbl : ∀ x ∈ l, x.bag.length ≤ 1000000) (hr : Req w w.heap.size a l) :
    Calls Try.prog 42 #[.slice a n c] w (AsksPost w (gvs l)) := by
  subst hn
  have HC := hide (cloneg_any a c l.length l rfl w hl hr.1)
  have HR := hide hr
  have HBL := hide hbl
  clear hr hbl
  go_enter Try.func42, Try.ntmps42
  go_wp2_with fail
  refine HC.out.mono ?_
  rintro e w1 ⟨v, rfl, hown, hb1⟩
  obtain ⟨A, c1, rfl, _, _, _⟩ := own_slice hown
  have HQ : Hid (Copied w1 w.heap.size (.slice A l.length c1) [] l) := hide ⟨by rw [List.nil_append]; simpa using hown, fun x h => absurd h (by simp)⟩
  have HB := hide hb1
  clear HC hown hb1
  go_wp2
  go_loopw [9] (fun i wr => ∃ (k : Nat) (l' : List Gm), k ≤ l.length ∧ i = .int .i64 k ∧ l'.length = k ∧ Hid (gvs l' = (gvs l).take k) ∧ Hid (Copied wr w.heap.size (.slice A l.length c1) l' (l.drop k)) ∧ Hid (Below w.heap.size w wr)) (fun i _ => l.length - (intOf i).toNat)
  case atStart => exact ⟨0, [], by omega, rfl, rfl, hide rfl, HQ, HB⟩
  case round =>
    clear HQ HB
    obtain ⟨k, l', hk, rfl, hll, HG, HQ, HB⟩ := hrel
    by_cases hlt : k < l.length
    · rw [drop_at hlt] at HQ
      obtain ⟨g, c2, e, hbg, hgl, x0, x1, x2, f2⟩ := HQ.out.row
      injection e with e1 e2 e3
      subst e1 e3
      clear e2
      have HX := hide (HR.out.2 l[k] (List.getElem_mem _))
      have HL := hide (HBL.out l[k] (List.getElem_mem _))
      have HST := hide (gvs_take_step hlt)
      generalize l[k] = x at *
      obtain ⟨xc, xn, xa, xcap, bag⟩ := x
      simp only at x0 x1 x2 HL
      rw [hll] at x0 x1 x2 f2
      have HCL := hide (clonev_any xa xcap bag.length bag rfl wr HL.out ((HX.out.2.2.2.2.1.below HB.out).more HB.out.size))
      go_wp2_with fail
      refine HCL.out.mono ?_
      rintro e w2 ⟨v, rfl, hown, hb2⟩
      obtain ⟨A2, c3, rfl, _, _, _⟩ := own_slice hown
      have HQ2 := hide (HQ.out.keep hb2)
      have HN := hide (own_base hown HB.out.size)
      have y2 := (hb2.cell (p := ⟨g, k * 3 + 2, none⟩) hgl).trans x2
      have g2 := (hb2.frozen (p := ⟨g, k * 3 + 2, none⟩) hgl).trans f2
      have hs2 := hb2.size
      have HB2 := hide (below_on HB.out hb2)
      clear HCL hown hb2 HQ x0 x1 x2 f2 HB
      go_wp2
      go_roundw
      case rel => exact ⟨k + 1, l' ++ [⟨xc, xn, A2, c3, bag⟩], by omega, by go_num, by simp [hll], hide (by rw [gvs_append, HST.out, HG.out]; rfl), hide (by have := HQ2.out.step HN.out; rw [hll] at this; exact this), hide (HB2.out.setCell (show w.heap.size ≤ g from hbg) _)⟩
      case measure => simp [intOf]; omega
    · obtain rfl : k = l.length := by omega
      have HX : Hid (gvs l' = gvs l) := hide (by rw [HG.out, List.take_of_length_le (by rw [gvs_len]; omega)])
      have hq := HQ.out
      rw [List.drop_length] at hq
      have HN : Hid (NewReq wr w.heap.size (.slice A l.length c1) l') := hide ⟨by have := hq.1; rwa [List.append_nil, List.length_nil, Nat.add_zero] at this, hq.2⟩
      clear hq
      go_wp2
      go_ret
      exact ⟨_, l', rfl, HX.out, HN.out, HB.out⟩
end Go.Proofs.Ytjaofdalmjiliaa
namespace Go.Proofs.Ytjaofdalmjiliaa
open Go.RowKit
set_option linter.unusedVariables false

theorem cellsG_set3 (y : Gm) : ∀ (l : List Gm) (i : Nat), i < l.length → (((cellsG l).set (i * 3) (.int .i64 y.cat)).set (i * 3 + 1) (.string y.name)).set (i * 3 + 2) (.slice y.at_ y.bag.length y.cap) = cellsG (l.set i y)
  | [], i, h => absurd h (by simp)
  | x :: l, 0, _ => rfl
  | x :: l, i + 1, h => by
    have ih := cellsG_set3 y l i (by simpa using h)
    rw [show (i + 1) * 3 = i * 3 + 3 by omega]
    show .int .i64 x.cat :: .string x.name :: .slice x.at_ x.bag.length x.cap :: ((((cellsG l).set (i * 3) (.int .i64 y.cat)).set (i * 3 + 1) (.string y.name)).set (i * 3 + 2) (.slice y.at_ y.bag.length y.cap)) = _
    rw [ih]
    rfl
theorem gvs_set (l : List Gm) (i : Nat) (y : Gm) : gvs (l.set i y) = (gvs l).set i y.gv := by unfold gvs; exact List.map_set
/-- A row with something in it lies in a block of its own. -/
theorem NewReq.block {w : World} {B : Nat} {l : List Gm} {a : Option Addr} {n c i : Nat} (h : NewReq w B (.slice a n c) l) (hi : i < l.length) :
    ∃ g, a = some ⟨g, 0, none⟩ ∧ n = l.length ∧ B ≤ g ∧ g < w.heap.size ∧ w.cell? ⟨g, i * 3, none⟩ = some (.int .i64 l[i].cat) ∧ w.cell? ⟨g, i * 3 + 1, none⟩ = some (.string l[i].name) ∧ w.cell? ⟨g, i * 3 + 2, none⟩ = some (.slice l[i].at_ l[i].bag.length l[i].cap) ∧ (∀ j, w.frozen? ⟨g, j, none⟩ = false) := by
  have h1 := h.1
  rcases h1.2 with ⟨_, e⟩ | ⟨g, cap, cur, e, hb, hg, _⟩
  · omega
  · injection e with e1 e2 e3
    subst e1 e2 e3
    have hlt := (Array.getElem?_eq_some_iff.1 hg).1
    obtain ⟨e0, e1, e2⟩ := cells3_map_at gcell (l := l) hi
    have c0 := h1.cellAt (i * 3) (by omega)
    have c1 := h1.cellAt (i * 3 + 1) (by omega)
    have c2 := h1.cellAt (i * 3 + 2) (by omega)
    exact ⟨g, rfl, rfl, hb, hlt, c0.trans e0, c1.trans e1, c2.trans e2, fun j => h1.frozenAt j⟩
/-- One of the row is stored anew. -/
theorem NewReq.put {w : World} {B g c n i : Nat} {l : List Gm} {y : Gm} (h : NewReq w B (.slice (some ⟨g, 0, none⟩) n c) l) (hi : i < l.length) (hy : NewG w B y) :
    NewReq (((w.setCell ⟨g, i * 3, none⟩ (.int .i64 y.cat)).setCell ⟨g, i * 3 + 1, none⟩ (.string y.name)).setCell ⟨g, i * 3 + 2, none⟩ (.slice y.at_ y.bag.length y.cap)) B (.slice (some ⟨g, 0, none⟩) n c) (l.set i y) := by
  have hn : n = l.length := by obtain ⟨_, _, e, _⟩ := h.block hi; exact e
  subst hn
  have hown := h.1
  have h1 := hown.stored (i * 3) (.int .i64 y.cat)
  have h2 := h1.1.stored (i * 3 + 1) (.string y.name)
  have h3 := h2.1.stored (i * 3 + 2) (.slice y.at_ y.bag.length y.cap)
  have hk : ∀ {x : Gm}, NewG w B x → NewG (((w.setCell ⟨g, i * 3, none⟩ (.int .i64 y.cat)).setCell ⟨g, i * 3 + 1, none⟩ (.string y.name)).setCell ⟨g, i * 3 + 2, none⟩ (.slice y.at_ y.bag.length y.cap)) B x := fun {x} hx => by
    have k1 := World.ownsRow.kept hx h1.2 (own_ne hx hown (by decide))
    have k2 := World.ownsRow.kept k1 h2.2 (own_ne k1 h1.1 (by decide))
    exact World.ownsRow.kept k2 h3.2 (own_ne k2 h2.1 (by decide))
  refine ⟨?_, fun x hx => ?_⟩
  · rw [List.length_set, ← cellsG_set3 y l i hi]
    exact h3.1
  · rcases List.mem_or_eq_of_mem_set hx with hx | rfl
    · exact hk (h.2 x hx)
    · exact hk hy
theorem NewReq.less {w : World} {B B' : Nat} {v : Value} {l : List Gm} (h : NewReq w B v l) (hB : B' ≤ B) : NewReq w B' v l := ⟨own_base h.1 hB, fun x hx => own_base (h.2 x hx) hB⟩
theorem NewReq.setBelow {w : World} {B : Nat} {v : Value} {l : List Gm} (h : NewReq w B v l) {a : Addr} (ha : a.block < B) (u : Value) : NewReq (w.setCell a u) B v l := ⟨ownsRow_setCell_below h.1 ha u, fun x hx => ownsRow_setCell_below (h.2 x hx) ha u⟩
/-- The box of a parameter behind a store of its third cell. -/
theorem box_third {w w3 : World} {x y z u : Value} {t : TypeId} (h : w3.heap[w.heap.size]? = some (.cells #[x, y, z] t (0, 0))) :
    (w3.setCell ⟨w.heap.size, 2, none⟩ u).heap[w.heap.size]? = some (.cells #[x, y, u] t (0, 0)) := by
  rw [heap_setCell_same w3 w.heap.size 2 _ _ _ h]; rfl
theorem box_cells {w5 : World} {g : Nat} {x y u : Value} {t : TypeId} (h : w5.heap[g]? = some (.cells #[x, y, u] t (0, 0))) : w5.cell? ⟨g, 0, none⟩ = some x ∧ w5.cell? ⟨g, 1, none⟩ = some y ∧ w5.cell? ⟨g, 2, none⟩ = some u :=
  ⟨by simp [World.cell?, h], by simp [World.cell?, h], by simp [World.cell?, h]⟩
theorem withG_in {l : List Gv} {g : Gv} (h : idxG l g.1 g.2.1 < l.length) : withG l g = l.set (idxG l g.1 g.2.1) g := by unfold withG; rw [if_pos h]
theorem withG_out {l : List Gv} {g : Gv} (h : ¬ idxG l g.1 g.2.1 < l.length) : withG l g = l ++ [g] := by unfold withG; rw [if_neg h]
theorem placeG_in {l : List Gv} {c : Int} {n : ByteArray} (h : idxG l c n < l.length) : placeG l c n = (idxG l c n : Int) := by unfold placeG; rw [if_pos h]
theorem placeG_out {l : List Gv} {c : Int} {n : ByteArray} (h : ¬ idxG l c n < l.length) : placeG l c n = -1 := by unfold placeG; rw [if_neg h]
set_option maxHeartbeats 1000000 in
theorem with_any (a : Option Addr) (c n : Nat) (l : List Gm) (hn : l.length = n) (x : Gm) (w : World) (hl : l.length < 1000000) (hbl : ∀ x ∈ l, x.bag.length ≤ 1000000) (hxl : x.bag.length ≤ 1000000) (hr : Req w w.heap.size a l) (hx : GOk w w.heap.size x) :
    Calls Try.prog 20 #[.slice a n c, .agg #[.int .i64 x.cat, .string x.name, .slice x.at_ x.bag.length x.cap]] w (AsksPost w (withG (gvs l) x.gv)) := by
  subst hn
  obtain ⟨xc, xn, xa, xcap, bag⟩ := x
  simp only at hxl
  have hb0 := below_new w (.cells #[.int .i64 xc, .string xn, .slice xa bag.length xcap] 40)
  have HC := hide (copied_any a c l.length l rfl _ (by omega) hbl (hr.on hb0))
  have HGO := hide (gvs_ok hr (l' := l) rfl)
  have HX := hide hx
  have HXL := hide hxl
  have hz := three_laid w (.int .i64 xc) (.string xn) (.slice xa bag.length xcap) 40
  have hsz : w.heap.size < (w.alloc (.cells #[.int .i64 xc, .string xn, .slice xa bag.length xcap] 40)).heap.size := by simp
  have HB0 := hide hb0
  have hg0 := heap_alloc_new w (.cells #[.int .i64 xc, .string xn, .slice xa bag.length xcap] 40)
  obtain ⟨z0, z1, z2⟩ := hz
  clear hr hx hxl hbl hb0
  show Calls _ _ #[.slice a l.length c, .agg #[.int .i64 xc, .string xn, .slice xa bag.length xcap]] w (AsksPost w (withG (gvs l) (xc, xn, bag)))
  go_enter Try.func20, Try.ntmps20
  go_wp2_with fail
  refine HC.out.mono ?_
  rintro e w2 ⟨v, l', rfl, hgv, hq, hb2⟩
  have y2 := (hb2.cell (p := ⟨w.heap.size, 2, none⟩) hsz).trans z2
  have hg2 := (hb2.block w.heap.size hsz).trans hg0
  have hsz2 := Nat.lt_of_lt_of_le hsz hb2.size
  have HB2 := hide (below_on HB0.out hb2)
  have HGV := hide hgv
  have HQ := hide hq
  have HS1 := hide hb2.size
  have HCL := hide (clonev_any xa xcap bag.length bag rfl w2 HXL.out ((HX.out.2.2.2.2.1.below HB2.out).more HB2.out.size))
  clear HC z0 z1 z2 hsz hg0 hgv hq hb2 HB0
  go_wp2_with fail
  refine HCL.out.mono ?_
  rintro e w3 ⟨v2, rfl, hown, hb3⟩
  obtain ⟨A2, c3, rfl, _, _, _⟩ := own_slice hown
  have hblk := (hb3.block w.heap.size hsz2).trans hg2
  have x2 := (hb3.cell (p := ⟨w.heap.size, 2, none⟩) hsz2).trans y2
  have f2 : w3.frozen? ⟨w.heap.size, 2, none⟩ = false := frozen_of_row w3 w.heap.size 2 _ _ hblk
  have hsz3 := Nat.lt_of_lt_of_le hsz2 hb3.size
  have HBK := hide (box_third (u := .slice A2 bag.length c3) hblk)
  have HQ4 := hide (((HQ.out.keep hb3).setBelow (a := ⟨w.heap.size, 2, none⟩) (by simp) (.slice A2 bag.length c3)).less (B' := w.heap.size) (by simp))
  have hnew : NewG (w3.setCell ⟨w.heap.size, 2, none⟩ (.slice A2 bag.length c3)) w.heap.size ⟨xc, xn, A2, c3, bag⟩ := own_base (ownsRow_setCell_below hown (a := ⟨w.heap.size, 2, none⟩) hsz2 (.slice A2 bag.length c3)) (by omega)
  have HN4 := hide hnew
  have HB4 : Hid (Below w.heap.size w (w3.setCell ⟨w.heap.size, 2, none⟩ (.slice A2 bag.length c3))) := hide ((below_on HB2.out hb3).setCell (Nat.le_refl _) _)
  have hsz4 : w.heap.size < (w3.setCell ⟨w.heap.size, 2, none⟩ (.slice A2 bag.length c3)).heap.size := by rw [World.size_setCell]; exact hsz3
  have hbk := HBK.out
  obtain ⟨e0, e1, e2⟩ := box_cells hbk
  obtain ⟨A, c1, rfl, hrq⟩ := HQ4.out.req (by rw [HGV.out]; exact HGO.out)
  have hll : l'.length = l.length := by rw [← gvs_len l', HGV.out, gvs_len]
  rw [hll] at HQ4 ⊢
  have HP := place_any A c1 l.length l' hll xc xn _ (by unfold maxLen; omega) hrq
  have HLL := hide hll
  rw [HGV.out] at HP
  have HP := hide HP
  clear hll hblk hsz3 hsz2 HQ hown hb3 y2 hg2 HCL hnew HB2 hbk hrq HX HXL
  go_wp2_with fail
  refine HP.out.mono ?_
  rintro e w5 ⟨rfl, hb5⟩
  have d0 := (hb5.cell (p := ⟨w.heap.size, 0, none⟩) hsz4).trans e0
  have d1 := (hb5.cell (p := ⟨w.heap.size, 1, none⟩) hsz4).trans e1
  have d2 := (hb5.cell (p := ⟨w.heap.size, 2, none⟩) hsz4).trans e2
  have HB5 := hide (below_on HB4.out hb5)
  have HQ5 := hide (HQ4.out.keep hb5)
  have HN5 := hide (HN4.out.keep hb5)
  have hsz5 := Nat.lt_of_lt_of_le hsz4 hb5.size
  clear HP hb5 HQ4 HN4 HB4 hsz4 e0 e1 e2 x2 f2
  by_cases hin : idxG (gvs l) xc xn < (gvs l).length
  · rw [placeG_in hin]
    have HW : Hid (withG (gvs l) (xc, xn, bag) = (gvs l).set (idxG (gvs l) xc xn) (xc, xn, bag)) := hide (withG_in (l := gvs l) (g := (xc, xn, bag)) hin)
    rw [gvs_len] at hin
    generalize idxG (gvs l) xc xn = ix at *
    obtain ⟨g, rfl, hq0, hbg, hgl, x0, x1, x2, hfz⟩ := HQ5.out.block (i := ix) (by have := HLL.out; omega)
    have f0 := hfz (ix * 3)
    have f1 := hfz (ix * 3 + 1)
    have f2 := hfz (ix * 3 + 2)
    have hix : (ix : Int) < (l.length : Int) := by omega
    have hge : decide ((ix : Int) ≥ 0) = true := decide_eq_true (by omega)
    clear hfz hq0
    go_wp2
    go_ret
    exact ⟨_, l'.set ix ⟨xc, xn, A2, c3, bag⟩, rfl, by rw [gvs_set, HGV.out, HW.out]; rfl, HQ5.out.put (y := ⟨xc, xn, A2, c3, bag⟩) (by have := HLL.out; omega) HN5.out, ((HB5.out.setCell (show w.heap.size ≤ g from hbg) _).setCell (show w.heap.size ≤ g from hbg) _).setCell (show w.heap.size ≤ g from hbg) _⟩
  · rw [placeG_out hin]
    have HW : Hid (withG (gvs l) (xc, xn, bag) = gvs l ++ [(xc, xn, bag)]) := hide (withG_out (l := gvs l) (g := (xc, xn, bag)) hin)
    have hnb := below_new w5 (.cells #[.int .i64 xc, .string xn, .slice A2 bag.length c3] 40)
    have HNB := hide hnb
    have HQ6 := hide (HQ5.out.keep hnb)
    have HN6 := hide (HN5.out.keep hnb)
    have HSL6 := hide (laid_one w5 ⟨xc, xn, A2, c3, bag⟩)
    have HB6 : Hid (Below w.heap.size w (w5.alloc (.cells #[.int .i64 xc, .string xn, .slice A2 bag.length c3] 40))) := hide (HB5.out.alloc HB5.out.size _)
    obtain ⟨j0, hi, hz0', hz1, hz2⟩ := info_parts infoG
    have Gi := hide hi
    have Gz0 := hide hz0'
    have Gz1 := hide hz1
    have Gz2 := hide hz2
    clear hi hz0' hz1 hz2 hnb hin
    go_wp2_with (at_builtin; go_loud (refine wpList_app _ rfl (.tmp 26) (.tmp 28) 32 rfl w.heap.size 40 j0 (.agg #[.int .i64 0, .string ByteArray.empty, .slice none 0 0]) 3 48 Try.underlying32 Gi.out Gz0.out Gz1.out Gz2.out rfl (by decide) _ l'.length (cellsG l') rfl HQ6.out.1 _ (some ⟨w5.heap.size, 0, none⟩) 1 1 (cellsG [⟨xc, xn, A2, c3, bag⟩]) rfl rfl HSL6.out (one_cellsG _) (by unfold maxLen; have := HLL.out; omega) (by have := HLL.out; omega) HB6.out.size ?_; intro v2 w6 hown2 hg2 hat2; have HQ7 := hide (HQ6.out.snoc HN6.out hg2 hown2); have HB7 := hide (own_below HQ6.out.1 HB6.out hg2 (Nat.le_refl _) HB6.out.size); clear hown2 hg2 hat2))
    go_ret
    exact ⟨v2, l' ++ [⟨xc, xn, A2, c3, bag⟩], rfl, by rw [gvs_append, HGV.out, HW.out]; rfl, HQ7.out, HB7.out⟩
end Go.Proofs.Ytjaofdalmjiliaa
