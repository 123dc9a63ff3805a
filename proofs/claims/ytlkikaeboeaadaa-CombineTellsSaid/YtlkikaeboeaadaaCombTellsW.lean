/-
  THE WALK OF bailifflaw5.CombineTells: it returns true; only new memory is laid.
-/
import Derived.Test.YtlkikaeboeaadaaBookM
namespace Go.Proofs.Ytlkikaeboeaadaa
open Go.RowKit
set_option linter.unusedVariables false
attribute [local go_sem] run_store_cx

theorem set_q {l : List (Nat × Nat)} (h : QPs l) (k : Nat) (m : Nat × Nat) (hm : QP m) : QPs (l.set k m) := fun x hx => by
  rcases List.mem_or_eq_of_mem_set hx with h1 | h1
  · exact h x h1
  · rw [h1]; exact hm
theorem vm_set (l : List (Nat × Nat)) (k : Nat) (m : Nat × Nat) : vm (l.set k m) = (vm l).set k (mk m.1 m.2) := by simp [vm, List.map_set]
set_option maxHeartbeats 8000000 in
theorem combineTells_walk (n0 : Int) (a1 : Option Addr) (cap1 : Nat) (l1 : List Int) (n2 : Int) (b3 : Bool) (w : World) (lo0 : -9223372036854775808 ≤ n0) (hi0 : n0 ≤ 9223372036854775807) (hl1 : l1.length ≤ cap1) (hm1 : cap1 ≤ maxLen) (s1 : Sl w w.heap.size a1 (vints .i64 l1)) (lo2 : -9223372036854775808 ≤ n2) (hi2 : n2 ≤ 9223372036854775807) :
    Calls Try.prog 16 #[.int .i64 n0, .slice a1 l1.length cap1, .int .i64 n2, .bool b3] w fun e w' => e = .returned (.bool true) ∧ Below w.heap.size w w' := by
  obtain ⟨alg, rfl⟩ : ∃ alg : Int, alg = n0 := ⟨_, rfl⟩
  go_enter Try.func16, Try.ntmps16
  go_wp2_with fail
  refine (row_any a1 cap1 _ l1 rfl w hl1 hm1 s1).mono ?_
  rintro e w1 ⟨v, rfl, hown, hb1⟩
  have hlen := rowP_length l1
  have hq := rowP_q l1
  generalize rowP l1 = l at hown hlen hq
  have hl20 : l.length ≤ 20 := by omega
  clear hlen s1
  have HB := hide hb1
  have HQ := hide hq
  clear hb1 hq
  by_cases hgo : b3 = true ∧ 0 < l.length
  · obtain ⟨rfl, hpos⟩ := hgo
    obtain ⟨g, cap, rfl, hnc, hcm, hg0, hg1⟩ := own_some hown hpos
    obtain ⟨K, hke⟩ : ∃ K : Nat, within n2 0 ((l.length : Int) - 1) = (K : Int) := ⟨_, (Int.toNat_of_nonneg (within_lo n2 0 ((l.length : Int) - 1) (by omega))).symm⟩
    have hK := within_any n2 0 ((l.length : Int) - 1) w1 (by omega) (by omega) (by omega)
    have hkl : K < l.length := by have := within_hi n2 0 ((l.length : Int) - 1) (by omega); omega
    rw [hke] at hK
    have HK := hide hK
    have hst := hown.stored K (.complex .f64 4607182418800017408 4607182418800017408)
    have hfr := hown.frozenAt K
    have hcell : w1.cell? ⟨g, K, none⟩ = some (.complex .f64 (qb l[K].1) (qb l[K].2)) := by
      refine (hown.cellAt K (by omega)).trans ?_
      rw [vm_at, List.getElem?_eq_getElem hkl]; rfl
    have HO : Hid ((w1.setCell ⟨g, K, none⟩ (.complex .f64 4607182418800017408 4607182418800017408)).ownsRow w.heap.size 23 1 (.slice (some ⟨g, 0, none⟩) l.length cap) (l.set K (4, 4)).length (vm (l.set K (4, 4)))) := hide (by
      rw [List.length_set, vm_set]; exact hst.1)
    have HB := hide (HB.out.setCell (p := ⟨g, K, none⟩) hg0 (.complex .f64 4607182418800017408 4607182418800017408))
    have HQ := hide (set_q HQ.out K (4, 4) ⟨by decide, by decide⟩)
    have HLN : Hid ((l.set K (4, 4)).length = l.length) := List.length_set
    have hkk : (K : Int) < (l.length : Int) := by omega
    have hk0 : (0 : Int) ≤ (K : Int) := by omega
    clear hK hke hst hown
    have hcap : cap ≤ 9223372036854775807 := by unfold maxLen at hcm; omega
    clear hcm
    generalize l[K] = m at hcell
    generalize l.set K (4, 4) = L at *
    generalize qb m.1 = y1 at hcell
    generalize qb m.2 = y2 at hcell
    go_wp2_with fail
    refine HK.out.mono ?_
    rintro e w' ⟨rfl, rfl⟩
    go_wp2_with fail
    generalize w1.setCell ⟨g, K, none⟩ (.complex .f64 4607182418800017408 4607182418800017408) = wa at *
    obtain ⟨A, hA⟩ : ∃ A : Option Addr, A = some ⟨g, 0, none⟩ := ⟨_, rfl⟩
    clear hcell hfr HK hkk hk0 hkl
    rw [← hA] at HO ⊢
    clear hA
    have hLn : L.length = l.length := HLN.out
    have hs1 : Sl wa wa.heap.size A (vm L) := by
      obtain ⟨A0, c0, e0, _, h0, _⟩ := own_slice HO.out
      injection e0 with e1 _ _
      rw [e1]; exact h0
    refine (roomym_any A cap _ L HLN.out wa (by omega) hs1).mono ?_
    rintro e w' ⟨rfl, rfl⟩
    have hb : Below wa.heap.size wa (wa.alloc (.cells (roomyM L).toArray 23)) := (Below.refl _ _).alloc (Nat.le_refl _) _
    have hr : Sl (wa.alloc (.cells (roomyM L).toArray 23)) (wa.heap.size + 1) (some ⟨wa.heap.size, 0, none⟩) (roomyM L) := Sl.laid wa _ _ _ _ rfl
    have hr2 := hr.take L.length
    rw [roomyM_take] at hr2
    have hs2 := (hs1.below hb).more (Nat.le_succ _)
    have HBW := hide (HB.out.trans (hb.mono HB.out.size))
    have hC := hide (all_any alg (some ⟨wa.heap.size, 0, none⟩) (l.length + 80) l.length L HLN.out _ _ (small _ (by omega)) HQ.out hr2)
    have hD := hide (refc_any alg A cap l.length L HLN.out _ _ (small _ (by omega)) HQ.out hs2)
    have hI := hide (intactm_any (some ⟨wa.heap.size, 0, none⟩) A (l.length + 80) cap l.length (l.length + 80) L HLN.out (by omega) _ _ (by omega) (by omega) HQ.out hr hs2)
    have f1 := q_self _ (allP_q (alg := alg) HQ.out).1
    have f2 := q_self _ (allP_q (alg := alg) HQ.out).2
    unfold mkE at hC hD
    generalize qb (allP alg L).1.1 = x1 at *
    generalize qb (allP alg L).1.2 = x2 at *
    generalize (allP alg L).2 = er at *
    clear hr hr2 hs2 hs1 hb hLn HO HQ HLN HB
    generalize wa.alloc (.cells (roomyM L).toArray 23) = wb at *
    go_wp2_with fail
    refine hC.out.mono ?_
    rintro e w' ⟨rfl, rfl⟩
    go_wp2_with fail
    refine hD.out.mono ?_
    rintro e w' ⟨rfl, rfl⟩
    go_wp2_with fail
    refine (cright_any alg wb).mono ?_
    rintro e w' ⟨rfl, rfl⟩
    by_cases h1 : 1 ≤ alg <;> by_cases h2 : alg ≤ 6 <;> (try (exfalso; omega))
    all_goals
      go_wp2_with fail
      refine hI.out.mono ?_
      rintro e w' ⟨rfl, nq, rfl⟩
      go_wp2_with fail
      refine (combineRuns_walk _).mono ?_
      rintro e w' ⟨rfl, hb3⟩
      go_wp2
      go_ret
      exact ⟨rfl, (below_drewN HBW.out nq).trans (hb3.mono HBW.out.size)⟩
  · obtain ⟨A, cap, rfl, hnc, hsl, hcase⟩ : ∃ A c, v = .slice A l.length c ∧ l.length ≤ c ∧ Sl w1 w1.heap.size A (vm l) ∧ c ≤ 9223372036854775807 := by
      obtain ⟨A, c, e, h1, h2, _⟩ := own_slice hown
      refine ⟨A, c, e, h1, h2, ?_⟩
      rcases hown.2 with ⟨rfl, hnil⟩ | ⟨g, cap, cur, rfl, hg0, hg, hnc, hcm, hh, ht⟩
      · injection e with e1 e2 e3
        omega
      · injection e with e1 e2 e3
        unfold maxLen at hcm
        omega
    obtain ⟨wa, rfl⟩ : ∃ wa : World, wa = w1 := ⟨_, rfl⟩
    obtain ⟨L, hLN, hLQ, hLO⟩ : ∃ L : List (Nat × Nat), L.length = l.length ∧ QPs L ∧ wa.ownsRow w.heap.size 23 1 (.slice A l.length cap) L.length (vm L) := ⟨l, rfl, HQ.out, hown⟩
    have HLN := hide hLN
    have HO := hide hLO
    clear HQ hown hsl hLO hLN
    have HQ := hide hLQ
    clear hLQ
    rcases b3 with _ | _
    · clear hgo
      go_wp2_with fail
      have hLn : L.length = l.length := HLN.out
      have hs1 : Sl wa wa.heap.size A (vm L) := by
        obtain ⟨A0, c0, e0, _, h0, _⟩ := own_slice HO.out
        injection e0 with e1 _ _
        rw [e1]; exact h0
      refine (roomym_any A cap _ L HLN.out wa (by omega) hs1).mono ?_
      rintro e w' ⟨rfl, rfl⟩
      have hb : Below wa.heap.size wa (wa.alloc (.cells (roomyM L).toArray 23)) := (Below.refl _ _).alloc (Nat.le_refl _) _
      have hr : Sl (wa.alloc (.cells (roomyM L).toArray 23)) (wa.heap.size + 1) (some ⟨wa.heap.size, 0, none⟩) (roomyM L) := Sl.laid wa _ _ _ _ rfl
      have hr2 := hr.take L.length
      rw [roomyM_take] at hr2
      have hs2 := (hs1.below hb).more (Nat.le_succ _)
      have HBW := hide (HB.out.trans (hb.mono HB.out.size))
      have hC := hide (all_any alg (some ⟨wa.heap.size, 0, none⟩) (l.length + 80) l.length L HLN.out _ _ (small _ (by omega)) HQ.out hr2)
      have hD := hide (refc_any alg A cap l.length L HLN.out _ _ (small _ (by omega)) HQ.out hs2)
      have hI := hide (intactm_any (some ⟨wa.heap.size, 0, none⟩) A (l.length + 80) cap l.length (l.length + 80) L HLN.out (by omega) _ _ (by omega) (by omega) HQ.out hr hs2)
      have f1 := q_self _ (allP_q (alg := alg) HQ.out).1
      have f2 := q_self _ (allP_q (alg := alg) HQ.out).2
      unfold mkE at hC hD
      generalize qb (allP alg L).1.1 = x1 at *
      generalize qb (allP alg L).1.2 = x2 at *
      generalize (allP alg L).2 = er at *
      clear hr hr2 hs2 hs1 hb hLn HO HQ HLN HB
      generalize wa.alloc (.cells (roomyM L).toArray 23) = wb at *
      go_wp2_with fail
      refine hC.out.mono ?_
      rintro e w' ⟨rfl, rfl⟩
      go_wp2_with fail
      refine hD.out.mono ?_
      rintro e w' ⟨rfl, rfl⟩
      go_wp2_with fail
      refine (cright_any alg wb).mono ?_
      rintro e w' ⟨rfl, rfl⟩
      by_cases h1 : 1 ≤ alg <;> by_cases h2 : alg ≤ 6 <;> (try (exfalso; omega))
      all_goals
        go_wp2_with fail
        refine hI.out.mono ?_
        rintro e w' ⟨rfl, nq, rfl⟩
        go_wp2_with fail
        refine (combineRuns_walk _).mono ?_
        rintro e w' ⟨rfl, hb3⟩
        go_wp2
        go_ret
        exact ⟨rfl, (below_drewN HBW.out nq).trans (hb3.mono HBW.out.size)⟩
    · have hz : l.length = 0 := by
        rcases Nat.eq_zero_or_pos l.length with h | h
        · exact h
        · exact absurd ⟨rfl, h⟩ hgo
      generalize l.length = n at *
      subst hz
      clear hgo
      go_wp2_with fail
      have hLn : L.length = 0 := HLN.out
      have hs1 : Sl wa wa.heap.size A (vm L) := by
        obtain ⟨A0, c0, e0, _, h0, _⟩ := own_slice HO.out
        injection e0 with e1 _ _
        rw [e1]; exact h0
      refine (roomym_any A cap _ L HLN.out wa (by omega) hs1).mono ?_
      rintro e w' ⟨rfl, rfl⟩
      have hb : Below wa.heap.size wa (wa.alloc (.cells (roomyM L).toArray 23)) := (Below.refl _ _).alloc (Nat.le_refl _) _
      have hr : Sl (wa.alloc (.cells (roomyM L).toArray 23)) (wa.heap.size + 1) (some ⟨wa.heap.size, 0, none⟩) (roomyM L) := Sl.laid wa _ _ _ _ rfl
      have hr2 := hr.take L.length
      rw [roomyM_take] at hr2
      have hs2 := (hs1.below hb).more (Nat.le_succ _)
      have HBW := hide (HB.out.trans (hb.mono HB.out.size))
      have hC := hide (all_any alg (some ⟨wa.heap.size, 0, none⟩) (0 + 80) 0 L HLN.out _ _ (small _ (by omega)) HQ.out hr2)
      have hD := hide (refc_any alg A cap 0 L HLN.out _ _ (small _ (by omega)) HQ.out hs2)
      have hI := hide (intactm_any (some ⟨wa.heap.size, 0, none⟩) A (0 + 80) cap 0 (0 + 80) L HLN.out (by omega) _ _ (by omega) (by omega) HQ.out hr hs2)
      have f1 := q_self _ (allP_q (alg := alg) HQ.out).1
      have f2 := q_self _ (allP_q (alg := alg) HQ.out).2
      unfold mkE at hC hD
      generalize qb (allP alg L).1.1 = x1 at *
      generalize qb (allP alg L).1.2 = x2 at *
      generalize (allP alg L).2 = er at *
      clear hr hr2 hs2 hs1 hb hLn HO HQ HLN HB
      generalize wa.alloc (.cells (roomyM L).toArray 23) = wb at *
      go_wp2_with fail
      refine hC.out.mono ?_
      rintro e w' ⟨rfl, rfl⟩
      go_wp2_with fail
      refine hD.out.mono ?_
      rintro e w' ⟨rfl, rfl⟩
      go_wp2_with fail
      refine (cright_any alg wb).mono ?_
      rintro e w' ⟨rfl, rfl⟩
      by_cases h1 : 1 ≤ alg <;> by_cases h2 : alg ≤ 6 <;> (try (exfalso; omega))
      all_goals
        go_wp2_with fail
        refine hI.out.mono ?_
        rintro e w' ⟨rfl, nq, rfl⟩
        go_wp2_with fail
        refine (combineRuns_walk _).mono ?_
        rintro e w' ⟨rfl, hb3⟩
        go_wp2
        go_ret
        exact ⟨rfl, (below_drewN HBW.out nq).trans (hb3.mono HBW.out.size)⟩
end Go.Proofs.Ytlkikaeboeaadaa
