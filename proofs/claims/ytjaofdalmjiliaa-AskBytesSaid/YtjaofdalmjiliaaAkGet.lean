/-
  CONTRACT OF ask.Get.
  CONTRACT OF the document's Get.
-/
import Derived.Test.YtjaofdalmjiliaaAkClone
namespace Go.Proofs.Ytjaofdalmjiliaa
open Go.RowKit
set_option linter.unusedVariables false

def codeG (bag : List V3) (must : Bool) : Int := if bag = [] ∧ must = true then 4 else 0
/-- A bag in new memory, and what is wrong. -/
def GotPost (w : World) (bag : List V3) (must : Bool) (e : Ending) (w' : World) : Prop :=
  ∃ v, e = .returned (.tuple #[v, .int .i64 (codeG bag must)]) ∧ w'.ownsRow w.heap.size 35 3 v bag.length (cellsV bag) ∧ Below w.heap.size w w'
theorem place_cases (l : List Gm) (C : Int) (N : ByteArray) : (placeG (gvs l) C N = -1 ∧ bagG (gvs l) C N = []) ∨ ∃ (k : Nat) (h : k < l.length), placeG (gvs l) C N = (k : Int) ∧ bagG (gvs l) C N = l[k].bag ∧ idxG (gvs l) C N = k := by
  by_cases h : idxG (gvs l) C N < (gvs l).length
  · have h' : idxG (gvs l) C N < l.length := by rw [← gvs_len]; exact h
    refine .inr ⟨idxG (gvs l) C N, h', ?_, ?_, rfl⟩
    · unfold placeG; rw [if_pos h]
    · rw [bag_at h, gvs_at l _ h']; rfl
  · refine .inl ⟨?_, bag_none h⟩
    unfold placeG; rw [if_neg h]
theorem own_less {w : World} {B B' : Nat} {e : TypeId} {size n : Nat} {v : Value} {xs : List Value} (h : w.ownsRow B e size v n xs) (hB : B' ≤ B) : w.ownsRow B' e size v n xs := by
  refine ⟨h.1, ?_⟩
  rcases h.2 with h1 | ⟨g, cap, cur, h1, h2, h3⟩
  · exact .inl h1
  · exact .inr ⟨g, cap, cur, h1, by omega, h3⟩
set_option maxHeartbeats 1000000 in
theorem get_any (a : Option Addr) (c n : Nat) (l : List Gm) (hn : l.length = n) (C : Int) (N : ByteArray) (must : Bool) (w : World) (hl : l.length ≤ maxLen) (hbl : ∀ x ∈ l, x.bag.length ≤ 1000000) (hr : Req w w.heap.size a l) :
    Calls Try.prog 8 #[.slice a n c, .agg #[.int .i64 C, .string N, .bool must]] w (GotPost w (bagG (gvs l) C N) must) := by
  subst hn
  have hb0 := below_new w (.cells #[.int .i64 C, .string N, .bool must] 27)
  have HI := hide (place_any a c l.length l rfl C N _ hl (hr.on hb0))
  have HQ := hide (place_cases l C N)
  have HR := hide hr
  have HBL := hide hbl
  have hc2 : (w.alloc (.cells #[.int .i64 C, .string N, .bool must] 27)).cell? ⟨w.heap.size, 2, none⟩ = some (.bool must) := new_cell w _ _ _ 2 _ rfl
  have hz : w.heap.size < (w.alloc (.cells #[.int .i64 C, .string N, .bool must] 27)).heap.size := by simp
  unfold maxLen at hl
  have HZ := hide (⟨hb0, hc2, hz⟩ : _ ∧ _ ∧ _)
  clear hb0 hr hbl hc2 hz
  generalize bagG (gvs l) C N = B at *
  generalize placeG (gvs l) C N = pl at *
  go_enter Try.func8, Try.ntmps8
  go_wp2_with fail
  refine HI.out.mono ?_
  rintro e w1 ⟨rfl, hb1⟩
  have hc := (hb1.cell (p := ⟨w.heap.size, 2, none⟩) HZ.out.2.2).trans HZ.out.2.1
  have hlt1 : w.heap.size < w1.heap.size := Nat.lt_of_lt_of_le HZ.out.2.2 hb1.size
  have HB1 := hide (below_on HZ.out.1 hb1)
  clear HI hb1 HZ
  rcases HQ.out with ⟨e1, e2⟩ | ⟨k, hk, e1, e2, _⟩
  · subst e1 e2
    clear HQ
    cases must
    · go_wp2
      go_ret2
      exact ⟨.slice none 0 0, rfl, World.ownsRow_nil _ _ _ _, HB1.out⟩
    · go_wp2
      go_ret2
      exact ⟨.slice none 0 0, rfl, World.ownsRow_nil _ _ _ _, HB1.out⟩
  · subst e1 e2
    obtain ⟨b, off, rfl, hb, x0, x1, x2⟩ := (HR.out.below HB1.out).at hk
    have hkz : (k : Int) < (l.length : Int) := by omega
    have hkl : decide ((k : Int) ≥ 0) = true := decide_eq_true (by omega)
    have HL := hide (HBL.out l[k] (List.getElem_mem _))
    have HS := hide ((HR.out.below HB1.out).2 l[k] (List.getElem_mem _)).2.2.2.2.1
    clear HQ HBL
    generalize l[k] = x at *
    obtain ⟨xc, xn, xa, xcap, bag⟩ := x
    simp only at x0 x1 x2 HL HS
    have HCL := hide (clonev_any xa xcap bag.length bag rfl w1 HL.out (HS.out.more HB1.out.size))
    go_wp2_with fail
    refine HCL.out.mono ?_
    rintro e w2 ⟨v, rfl, hown, hb2⟩
    have hc' := (hb2.cell (p := ⟨w.heap.size, 2, none⟩) hlt1).trans hc
    obtain ⟨A, cc, rfl, _, _⟩ := own_slice hown
    have HO := hide (own_less hown HB1.out.size)
    have HB2 := hide (below_on HB1.out hb2)
    clear hc hlt1 HCL hb2 hown x0 x1 x2 HB1
    by_cases hz : bag = []
    · subst hz
      cases must
      · go_wp2
        go_ret2
        exact ⟨_, rfl, HO.out, HB2.out⟩
      · go_wp2
        go_ret2
        exact ⟨.slice none 0 0, rfl, World.ownsRow_nil _ _ _ _, HB2.out⟩
    · have hne : ((bag.length : Int) == 0) = false := beq_eq_false_iff_ne.2 (fun h => hz (List.eq_nil_of_length_eq_zero (by omega)))
      have hcode : codeG bag must = 0 := if_neg (fun h => hz h.1)
      have HC := hide hcode
      clear hz hcode
      go_wp2
      go_ret2
      exact ⟨_, by rw [HC.out]; rfl, HO.out, HB2.out⟩
end Go.Proofs.Ytjaofdalmjiliaa
namespace Go.Proofs.Ytjaofdalmjiliaa
open Go.RowKit
set_option linter.unusedVariables false

theorem three_laid (w : World) (x y z : Value) (t : TypeId) : (w.alloc (.cells #[x, y, z] t)).cell? ⟨w.heap.size, 0, none⟩ = some x ∧ (w.alloc (.cells #[x, y, z] t)).cell? ⟨w.heap.size, 1, none⟩ = some y ∧ (w.alloc (.cells #[x, y, z] t)).cell? ⟨w.heap.size, 2, none⟩ = some z :=
  ⟨new_cell w _ _ _ 0 _ rfl, new_cell w _ _ _ 1 _ rfl, new_cell w _ _ _ 2 _ rfl⟩
set_option maxHeartbeats 1000000 in
theorem rget_any (a : Option Addr) (c n : Nat) (l : List Gm) (hn : l.length = n) (C : Int) (N : ByteArray) (must : Bool) (w : World) (hl : l.length ≤ maxLen) (hbl : ∀ x ∈ l, x.bag.length ≤ 1000000) (hr : Req w w.heap.size a l) :
    Calls Try.prog 16 #[.slice a n c, .agg #[.int .i64 C, .string N, .bool must]] w (GotPost w (bagG (gvs l) C N) must) := by
  subst hn
  obtain ⟨i0, hi, hz0, hz1, hz2⟩ := info_parts infoV
  have Hi := hide hi
  have Hz0 := hide hz0
  have Hz1 := hide hz1
  have Hz2 := hide hz2
  clear hi hz0 hz1 hz2
  have hb0 := below_new w (.cells #[.int .i64 C, .string N, .bool must] 27)
  have HQ := hide (place_cases l C N)
  have HR := hide (hr.on hb0)
  have HBL := hide hbl
  have hc := three_laid w (.int .i64 C) (.string N) (.bool must) 27
  have hz : w.heap.size < (w.alloc (.cells #[.int .i64 C, .string N, .bool must] 27)).heap.size := by simp
  unfold maxLen at hl
  have HZ := hide (⟨hb0, hc, hz⟩ : _ ∧ _ ∧ _)
  clear hb0 hr hbl hc hz
  generalize hB : bagG (gvs l) C N = B at *
  have HBB := hide hB
  clear hB
  go_enter Try.func16, Try.ntmps16
  go_wp2
  generalize w.alloc (.cells #[.int .i64 C, .string N, .bool must] 27) = w0 at *
  go_loopw [6, 11] (fun o i wr => ∃ k : Nat, k ≤ l.length ∧ i = .int .i64 k ∧ o = .slice none 0 0 ∧ Hid (∀ i (hi : i < l.length), i < k → isG C N l[i].gv = false) ∧ Hid (Below w0.heap.size w0 wr)) (fun _ i _ => l.length - (intOf i).toNat)
  case atStart => exact ⟨0, by omega, rfl, rfl, hide (fun i _ h => absurd h (by omega)), hide (Below.refl _ _)⟩
  case round =>
    obtain ⟨k, hk, rfl, rfl, HF, HB⟩ := hrel
    have hlt0 : w.heap.size < wr.heap.size := Nat.lt_of_lt_of_le HZ.out.2.2 HB.out.size
    have c0 := (HB.out.cell (p := ⟨w.heap.size, 0, none⟩) HZ.out.2.2).trans HZ.out.2.1.1
    have c1 := (HB.out.cell (p := ⟨w.heap.size, 1, none⟩) HZ.out.2.2).trans HZ.out.2.1.2.1
    have c2 := (HB.out.cell (p := ⟨w.heap.size, 2, none⟩) HZ.out.2.2).trans HZ.out.2.1.2.2
    have HBW : Hid (Below w.heap.size w wr) := hide (below_on HZ.out.1 HB.out)
    have hne0 : w.heap.size ≠ wr.heap.size := by omega
    by_cases hlt : k < l.length
    · obtain ⟨b, off, rfl, hb, x0, x1, x2⟩ := (HR.out.below HB.out).at hlt
      have HL := hide (HBL.out l[k] (List.getElem_mem _))
      have HS := hide (((HR.out.below HB.out).2 l[k] (List.getElem_mem _)).2.2.2.2.1.more HB.out.size)
      have HIS : Hid (∀ g, isG C N l[k].gv = g → ((if g = true then B = l[k].bag else ∀ i (hi : i < l.length), i < k + 1 → isG C N l[i].gv = false) : Prop)) := hide (fun g hg => by
        cases g
        · rw [if_neg (by decide)]
          intro i hi h
          rcases Nat.lt_or_ge i k with h1 | h1
          · exact HF.out i hi h1
          · obtain rfl : i = k := by omega
            exact hg
        · rw [if_pos rfl]
          have hp := place_hit hlt HF.out hg
          rcases HQ.out with ⟨e1, _⟩ | ⟨k', hk', e1, e2, _⟩
          · rw [e1] at hp; omega
          · rw [e1] at hp
            obtain rfl : k' = k := by omega
            exact e2)
      clear HF
      generalize l[k] = x at *
      obtain ⟨xc, xn, xa, xcap, bag⟩ := x
      simp only at x0 x1 x2 HL HS HIS
      have hsd := str_dec xn N
      by_cases h1 : xc = C
      · by_cases h2 : xn = N
        · have HE := hide (HIS.out true (isG_iff.2 ⟨h1, h2⟩))
          rw [decide_eq_true h2] at hsd
          subst h1
          have hdd : B = bag := by have := HE.out; rwa [if_pos rfl] at this
          subst hdd
          clear HIS HE h2
          have hz1 : (wr.alloc (.cells #[.int .i64 xc, .string xn, .slice xa B.length xcap] 40)).heap.size = wr.heap.size + 1 := by simp
          have hb3 : Below wr.heap.size wr ((wr.alloc (.cells #[.int .i64 xc, .string xn, .slice xa B.length xcap] 40)).alloc (.cells #[] 35)) := below_on (below_new wr _) (below_new _ _)
          have hown0 : ((wr.alloc (.cells #[.int .i64 xc, .string xn, .slice xa B.length xcap] 40)).alloc (.cells #[] 35)).ownsRow (wr.heap.size + 1) 35 3 (.slice (some ⟨wr.heap.size + 1, 0, none⟩) 0 0) 0 [] := by
            have := World.ownsRow_made (base := wr.heap.size + 1) (e := 35) (size := 3) (wr.alloc (.cells #[.int .i64 xc, .string xn, .slice xa B.length xcap] 40)) #[] 0 (by rw [hz1]; exact Nat.le_refl _) (by simp [maxLen]) rfl
            rwa [hz1] at this
          have hsz : wr.heap.size + 1 ≤ ((wr.alloc (.cells #[.int .i64 xc, .string xn, .slice xa B.length xcap] 40)).alloc (.cells #[] 35)).heap.size := by simp
          have HV : Hid ((cellsV B).length = B.length * 3) := hide (cellsV_len B)
          have HS2 := hide ((HS.out.below hb3).more hb3.size)
          have HO := hide (one_cellsV B)
          have H0 := hide hown0
          have HB3 := hide hb3
          have HSZ := hide hsz
          clear hz1 hb3 hown0 hsz HS HQ HBB
          by_cases hz : B = []
          · have hne : ((B.length : Int) == 0) = true := by rw [hz]; rfl
            have HZB := hide hz
            clear hz
            cases must
            · go_wp2_with (at_builtin; refine wpList_app _ rfl (.tmp 27) (.tmp 29) 22 rfl (wr.heap.size + 1) 35 i0 (.agg #[.int .i64 0, .int .i64 0, .string ByteArray.empty]) 3 32 Try.underlying22 Hi.out Hz0.out Hz1.out Hz2.out rfl (by decide) (.slice (some ⟨wr.heap.size + 1, 0, none⟩) 0 0) 0 [] rfl H0.out _ xa B.length xcap (cellsV B) rfl HV.out HS2.out HO.out (by unfold maxLen; have := HL.out; omega) (by have := HL.out; omega) HSZ.out ?_; intro v1 w1 hown1 hg1 hat1; have HB1 := hide (own_below H0.out HB3.out hg1 (by omega) HSZ.out); clear hg1 hat1; rw [Nat.zero_add, List.nil_append] at hown1; obtain ⟨A1, cc, rfl, _, _⟩ := own_slice hown1; have HOW := hide hown1; have d2 := (HB1.out.cell (p := ⟨w.heap.size, 2, none⟩) hlt0).trans c2; have HZ2 : Hid (w.heap.size ≤ wr.heap.size + 1) := hide (by omega); clear hown1 c0 c1 c2)
              go_ret2
              exact ⟨_, by rw [HZB.out]; rfl, own_less HOW.out HZ2.out, below_on HBW.out HB1.out⟩
            · go_wp2_with (at_builtin; refine wpList_app _ rfl (.tmp 27) (.tmp 29) 22 rfl (wr.heap.size + 1) 35 i0 (.agg #[.int .i64 0, .int .i64 0, .string ByteArray.empty]) 3 32 Try.underlying22 Hi.out Hz0.out Hz1.out Hz2.out rfl (by decide) (.slice (some ⟨wr.heap.size + 1, 0, none⟩) 0 0) 0 [] rfl H0.out _ xa B.length xcap (cellsV B) rfl HV.out HS2.out HO.out (by unfold maxLen; have := HL.out; omega) (by have := HL.out; omega) HSZ.out ?_; intro v1 w1 hown1 hg1 hat1; have HB1 := hide (own_below H0.out HB3.out hg1 (by omega) HSZ.out); clear hg1 hat1; rw [Nat.zero_add, List.nil_append] at hown1; obtain ⟨A1, cc, rfl, _, _⟩ := own_slice hown1; have HOW := hide hown1; have d2 := (HB1.out.cell (p := ⟨w.heap.size, 2, none⟩) hlt0).trans c2; have HZ2 : Hid (w.heap.size ≤ wr.heap.size + 1) := hide (by omega); clear hown1 c0 c1 c2)
              go_ret2
              exact ⟨.slice none 0 0, by rw [HZB.out]; rfl, by rw [HZB.out]; exact World.ownsRow_nil _ _ _ _, below_on HBW.out HB1.out⟩
          · have hne : ((B.length : Int) == 0) = false := beq_eq_false_iff_ne.2 (fun h => hz (List.eq_nil_of_length_eq_zero (by omega)))
            have hcode : codeG B must = 0 := if_neg (fun h => hz h.1)
            have HC := hide hcode
            clear hz hcode
            go_wp2_with (at_builtin; refine wpList_app _ rfl (.tmp 27) (.tmp 29) 22 rfl (wr.heap.size + 1) 35 i0 (.agg #[.int .i64 0, .int .i64 0, .string ByteArray.empty]) 3 32 Try.underlying22 Hi.out Hz0.out Hz1.out Hz2.out rfl (by decide) (.slice (some ⟨wr.heap.size + 1, 0, none⟩) 0 0) 0 [] rfl H0.out _ xa B.length xcap (cellsV B) rfl HV.out HS2.out HO.out (by unfold maxLen; have := HL.out; omega) (by have := HL.out; omega) HSZ.out ?_; intro v1 w1 hown1 hg1 hat1; have HB1 := hide (own_below H0.out HB3.out hg1 (by omega) HSZ.out); clear hg1 hat1; rw [Nat.zero_add, List.nil_append] at hown1; obtain ⟨A1, cc, rfl, _, _⟩ := own_slice hown1; have HOW := hide hown1; have d2 := (HB1.out.cell (p := ⟨w.heap.size, 2, none⟩) hlt0).trans c2; have HZ2 : Hid (w.heap.size ≤ wr.heap.size + 1) := hide (by omega); clear hown1 c0 c1 c2)
            go_ret2
            exact ⟨_, by rw [HC.out]; rfl, own_less HOW.out HZ2.out, below_on HBW.out HB1.out⟩
        · have HE : Hid _ := hide (HIS.out false (isG_no.2 (fun h => h2 h.2)))
          rw [decide_eq_false h2] at hsd
          subst h1
          clear HIS h2
          go_wp2
          go_roundw
          case rel => exact ⟨k + 1, by omega, by go_num, rfl, hide (by have := HE.out; rwa [if_neg (by decide)] at this), hide (HB.out.trans ((below_new wr _).mono HB.out.size))⟩
          case measure => simp [intOf]; omega
      · have HE : Hid _ := hide (HIS.out false (isG_no.2 (fun h => h1 h.1)))
        clear HIS hsd
        have hne : (xc == C) = false := beq_eq_false_iff_ne.2 h1
        go_wp2
        go_roundw
        case rel => exact ⟨k + 1, by omega, by go_num, rfl, hide (by have := HE.out; rwa [if_neg (by decide)] at this), hide (HB.out.trans ((below_new wr _).mono HB.out.size))⟩
        case measure => simp [intOf]; omega
    · obtain rfl : k = l.length := by omega
      have hBN : B = [] := by
        rcases HQ.out with ⟨_, e2⟩ | ⟨k', hk', e1, _⟩
        · exact e2
        · have := place_miss HF.out
          rw [e1] at this; omega
      subst hBN
      clear HQ HF HBB
      cases must
      · go_wp2
        go_ret2
        exact ⟨.slice none 0 0, rfl, World.ownsRow_nil _ _ _ _, HBW.out⟩
      · go_wp2
        go_ret2
        exact ⟨.slice none 0 0, rfl, World.ownsRow_nil _ _ _ _, HBW.out⟩
end Go.Proofs.Ytjaofdalmjiliaa
