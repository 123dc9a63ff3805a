/-
  CONTRACT OF ask.Get.
-/
import Derived.Test.YtjaofdalmjiliaaAkClone
namespace Go.Proofs.Ytjaofdalmjiliaa
open Go.RowKit
set_option linter.unusedVariables false

def codeG (bag : List V3) (must : Bool) : Int := if bag = [] ∧ must = true then 4 else 0
/-- A bag in new memory, and what is wrong. -/
def GotPost (w : World) (bag : List V3) (must : Bool) (e : Ending) (w' : World) : Prop :=
  ∃ v, e = .returned (.tuple #[v, .int .i64 (codeG bag must)]) ∧ w'.ownsRow w.heap.size 35 3 v bag.length (cellsV bag) ∧ Below w.heap.size w w'
theorem place_cases (l : List Gm) (C : Int) (N : ByteArray) : (placeG (gvs l) C N = -1 ∧ bagG (gvs l) C N = []) ∨ ∃ (k : Nat) (h : k < l.length), placeG (gvs l) C N = (k : Int) ∧ bagG (gvs l) C N = l[k].bag ∧ idxG (gvs l) C N = k := by
  by_cases h : idxG (gvs l) C N < (gvs l).length
  · have h' : idxG (gvs l) C N < l.length := by rw [← gvs_len]; exact h
    refine .inr ⟨idxG (gvs l) C N, h', ?_, ?_, rfl⟩
    · unfold placeG; rw [if_pos h]
    · rw [bag_at h, gvs_at l _ h']; rfl
  · refine .inl ⟨?_, bag_none h⟩
    unfold placeG; rw [if_neg h]
theorem own_less {w : World} {B B' : Nat} {e : TypeId} {size n : Nat} {v : Value} {xs : List Value} (h : w.ownsRow B e size v n xs) (hB : B' ≤ B) : w.ownsRow B' e size v n xs := by
  refine ⟨h.1, ?_⟩
  rcases h.2 with h1 | ⟨g, cap, cur, h1, h2, h3⟩
  · exact .inl h1
  · exact .inr ⟨g, cap, cur, h1, by omega, h3⟩
set_option maxHeartbeats 1000000 in
theorem get_any (a : Option Addr) (c n : Nat) (l : List Gm) (hn : l.length = n) (C : Int) (N : ByteArray) (must : Bool) (w : World) (hl : l.length ≤ maxLen) (hbl : ∀ x ∈ l, x.bag.length ≤ 1000000) (hr : Req w w.heap.size a l) :
    Calls Try.prog 8 #[.slice a n c, .agg #[.int .i64 C, .string N, .bool must]] w (GotPost w (bagG (gvs l) C N) must) := by
  subst hn
  have hb0 := below_new w (.cells #[.int .i64 C, .string N, .bool must] 27)
  have HI := hide (place_any a c l.length l rfl C N _ hl (hr.on hb0))
  have HQ := hide (place_cases l C N)
  have HR := hide hr
  have HBL := hide hbl
  have hc2 : (w.alloc (.cells #[.int .i64 C, .string N, .bool must] 27)).cell? ⟨w.heap.size, 2, none⟩ = some (.bool must) := new_cell w _ _ _ 2 _ rfl
  have hz : w.heap.size < (w.alloc (.cells #[.int .i64 C, .string N, .bool must] 27)).heap.size := by simp
  unfold maxLen at hl
  have HZ := hide (⟨hb0, hc2, hz⟩ : _ ∧ _ ∧ _)
  clear hb0 hr hbl hc2 hz
  generalize bagG (gvs l) C N = B at *
  generalize placeG (gvs l) C N = pl at *
  go_enter Try.func8, Try.ntmps8
  go_wp2_with fail
  refine HI.out.mono ?_
  rintro e w1 ⟨rfl, hb1⟩
  have hc := (hb1.cell (p := ⟨w.heap.size, 2, none⟩) HZ.out.2.2).trans HZ.out.2.1
  have hlt1 : w.heap.size < w1.heap.size := Nat.lt_of_lt_of_le HZ.out.2.2 hb1.size
  have HB1 := hide (below_on HZ.out.1 hb1)
  clear HI hb1 HZ
  rcases HQ.out with ⟨e1, e2⟩ | ⟨k, hk, e1, e2, _⟩
  · subst e1 e2
    clear HQ
    cases must
    · go_wp2
      go_ret2
      exact ⟨.slice none 0 0, rfl, World.ownsRow_nil _ _ _ _, HB1.out⟩
    · go_wp2
      go_ret2
      exact ⟨.slice none 0 0, rfl, World.ownsRow_nil _ _ _ _, HB1.out⟩
  · subst e1 e2
    obtain ⟨b, off, rfl, hb, x0, x1, x2⟩ := (HR.out.below HB1.out).at hk
    have hkz : (k : Int) < (l.length : Int) := by omega
    have hkl : decide ((k : Int) ≥ 0) = true := decide_eq_true (by omega)
    have HL := hide (HBL.out l[k] (List.getElem_mem _))
    have HS := hide ((HR.out.below HB1.out).2 l[k] (List.getElem_mem _)).2.2.2.2.1
    clear HQ HBL
    generalize l[k] = x at *
    obtain ⟨xc, xn, xa, xcap, bag⟩ := x
    simp only at x0 x1 x2 HL HS
    have HCL := hide (clonev_any xa xcap bag.length bag rfl w1 HL.out (HS.out.more HB1.out.size))
    go_wp2_with fail
    refine HCL.out.mono ?_
    rintro e w2 ⟨v, rfl, hown, hb2⟩
    have hc' := (hb2.cell (p := ⟨w.heap.size, 2, none⟩) hlt1).trans hc
    obtain ⟨A, cc, rfl, _, _⟩ := own_slice hown
    have HO := hide (own_less hown HB1.out.size)
    have HB2 := hide (below_on HB1.out hb2)
    clear hc hlt1 HCL hb2 hown x0 x1 x2 HB1
    by_cases hz : bag = []
    · subst hz
      cases must
      · go_wp2
        go_ret2
        exact ⟨_, rfl, HO.out, HB2.out⟩
      · go_wp2
        go_ret2
        exact ⟨.slice none 0 0, rfl, World.ownsRow_nil _ _ _ _, HB2.out⟩
    · have hne : ((bag.length : Int) == 0) = false := beq_eq_false_iff_ne.2 (fun h => hz (List.eq_nil_of_length_eq_zero (by omega)))
      have hcode : codeG bag must = 0 := if_neg (fun h => hz h.1)
      have HC := hide hcode
      clear hz hcode
      go_wp2
      go_ret2
      exact ⟨_, by rw [HC.out]; rfl, HO.out, HB2.out⟩
end Go.Proofs.Ytjaofdalmjiliaa
