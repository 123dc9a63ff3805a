/-
  THE WALK OF bailifflaw5.CombineNested: it returns true; only new memory is laid.
-/
import Derived.Test.YtlkikaeboeaadaaCombRunsW
import Derived.Test.YtlkikaeboeaadaaCombL
namespace Go.Proofs.Ytlkikaeboeaadaa
open Go.RowKit
set_option linter.unusedVariables false

theorem Sl.drop {w : World} {B b off : Nat} {xs : List Value} (h : Sl w B (some ⟨b, off, none⟩) xs) (k : Nat) : Sl w B (some ⟨b, off + k, none⟩) (xs.drop k) := fun hn => by
  obtain ⟨b', off', e, hb, hc⟩ := h (by rintro rfl; simp at hn)
  injection e with e
  injection e with e1 e2
  subst e1 e2
  refine ⟨b, off + k, rfl, hb, fun i x hx => ?_⟩
  rw [List.getElem?_drop] at hx
  rw [show off + k + i = off + (k + i) by omega]
  exact hc _ x hx
theorem rowP_all6 (l : List Int) : All6 (rowP l) := by
  intro m hm
  simp only [rowP, List.mem_map] at hm
  obtain ⟨n, _, rfl⟩ := hm
  have h1 := within_hi n 0 5 (by omega)
  have h2 := within_lo n 0 5 (by omega)
  unfold sixN
  obtain ⟨K, hK⟩ : ∃ K : Nat, within n 0 5 = (K : Int) := ⟨_, (Int.toNat_of_nonneg h2).symm⟩
  rw [hK, Int.toNat_natCast]
  obtain rfl | rfl | rfl | rfl | rfl | rfl : K = 0 ∨ K = 1 ∨ K = 2 ∨ K = 3 ∨ K = 4 ∨ K = 5 := by omega
  all_goals rfl
theorem All6.all {l : List (Nat × Nat)} (h : All6 l) : l.all rightP = true := List.all_eq_true.2 h
theorem alg_of (j : Nat) (hj : j ≤ 5) {l : List (Nat × Nat)} (h : All6 l) : allP (1 + (j : Int)) l = (algP (j + 1) l, 0) := by
  rw [show (1 + (j : Int)) = ((j + 1 : Nat) : Int) by omega]
  exact allP_yes (j + 1) (by omega) (by omega) h.all
/-- All by one of the six algorithms, of decisions. -/
theorem alg_any (j : Nat) (hj : j ≤ 5) (a : Option Addr) (c n : Nat) (l : List (Nat × Nat)) (hn : l.length = n) (w : World) (B : Nat) (hc : n ≤ 1000000) (hq : QPs l) (h6 : All6 l) (hs : Sl w B a (vm l)) :
    Calls Try.prog 30 #[.int .i64 (1 + (j : Int)), .slice a n c] w fun e w' => e = .returned (.tuple #[.complex .f64 (qb (algP (j + 1) l).1) (qb (algP (j + 1) l).2), .int .i64 0]) ∧ w = w' :=
  all_lit _ a c n l hn w B _ (small _ hc) hq hs (by rw [alg_of j hj h6]; rfl)
theorem drop_q {l : List (Nat × Nat)} (h : QPs l) (k : Nat) : QPs (l.drop k) := fun m hm => h m (List.mem_of_mem_drop hm)
theorem take_q {l : List (Nat × Nat)} (h : QPs l) (k : Nat) : QPs (l.take k) := fun m hm => h m (List.mem_of_mem_take hm)
theorem drop_6 {l : List (Nat × Nat)} (h : All6 l) (k : Nat) : All6 (l.drop k) := fun m hm => h m (List.mem_of_mem_drop hm)
theorem take_6 {l : List (Nat × Nat)} (h : All6 l) (k : Nat) : All6 (l.take k) := fun m hm => h m (List.mem_of_mem_take hm)
set_option maxHeartbeats 2000000 in
theorem combineNested_walk (n0 : Int) (a1 : Option Addr) (cap1 : Nat) (l1 : List Int) (n2 : Int) (w : World) (lo0 : -9223372036854775808 ≤ n0) (hi0 : n0 ≤ 9223372036854775807) (hl1 : l1.length ≤ cap1) (hm1 : cap1 ≤ maxLen) (s1 : Sl w w.heap.size a1 (vints .i64 l1)) (lo2 : -9223372036854775808 ≤ n2) (hi2 : n2 ≤ 9223372036854775807) :
    Calls Try.prog 14 #[.int .i64 n0, .slice a1 l1.length cap1, .int .i64 n2] w fun e w' => e = .returned (.bool true) ∧ Below w.heap.size w w' := by
  obtain ⟨j, hje⟩ : ∃ K : Nat, within n0 0 5 = (K : Int) := ⟨_, (Int.toNat_of_nonneg (within_lo n0 0 5 (by omega))).symm⟩
  have hj : j ≤ 5 := by have := within_hi n0 0 5 (by omega); omega
  have hW := within_any n0 0 5 w (by omega) (by omega) (by omega)
  rw [hje] at hW
  have HW := hide hW
  clear hW hje
  go_enter Try.func14, Try.ntmps14
  go_wp2_with fail
  refine HW.out.mono ?_
  rintro e w' ⟨rfl, rfl⟩
  go_wp2_with fail
  refine (row_any a1 cap1 _ l1 rfl w hl1 hm1 s1).mono ?_
  rintro e w1 ⟨v, rfl, hown, hb1⟩
  have hlen := rowP_length l1
  have hq := rowP_q l1
  have h6 := rowP_all6 l1
  generalize rowP l1 = l at hown hlen hq h6
  have hl20 : l.length ≤ 20 := by omega
  clear hlen s1 HW
  obtain ⟨A, cap, rfl, hnc, hsl, hcase⟩ : ∃ A c, v = .slice A l.length c ∧ l.length ≤ c ∧ Sl w1 w1.heap.size A (vm l) ∧ (A = none ∧ l = [] ∧ c = 0 ∨ ∃ g, A = some ⟨g, 0, none⟩ ∧ c ≤ maxLen) := by
    obtain ⟨A, c, e, h1, h2, _⟩ := own_slice hown
    refine ⟨A, c, e, h1, h2, ?_⟩
    rcases hown.2 with ⟨rfl, hnil⟩ | ⟨g, cap, cur, rfl, hg0, hg, hnc, hcm, hh, ht⟩
    · injection e with e1 e2 e3
      exact .inl ⟨e1.symm, List.eq_nil_of_length_eq_zero e2.symm, e3.symm⟩
    · injection e with e1 e2 e3
      exact .inr ⟨g, e1.symm, by rw [← e3]; exact hcm⟩
  clear hown
  have hK := within_any n2 0 (l.length : Int) w1 (by omega) (by omega) (by omega)
  obtain ⟨k, hke⟩ : ∃ K : Nat, within n2 0 (l.length : Int) = (K : Int) := ⟨_, (Int.toNat_of_nonneg (within_lo n2 0 _ (by omega))).symm⟩
  have hkl : k ≤ l.length := by have := within_hi n2 0 (l.length : Int) (by omega); omega
  rw [hke] at hK
  have HK := hide hK
  have hst : Sl w1 w1.heap.size A (vm (l.take k)) := by rw [← vm_take]; exact hsl.take k
  have hA : Hid (∀ W : World, Below w1.heap.size w1 W → Calls Try.prog 30 #[.int .i64 (1 + (j : Int)), .slice A l.length cap] W fun e w' => e = .returned (.tuple #[.complex .f64 (qb (algP (j + 1) l).1) (qb (algP (j + 1) l).2), .int .i64 0]) ∧ W = w') :=
    fun W hb => alg_any j hj A cap l.length l rfl W w1.heap.size (by omega) hq h6 (hsl.below hb)
  have hX := hide (alg_any j hj A cap k (l.take k) (take_len l k hkl) w1 w1.heap.size (by omega) (take_q hq k) (take_6 h6 k) hst)
  have hY : Hid (∀ A' c', Sl w1 w1.heap.size A' (vm (l.drop k)) → Calls Try.prog 30 #[.int .i64 (1 + (j : Int)), .slice A' (l.length - k) c'] w1 fun e w' => e = .returned (.tuple #[.complex .f64 (qb (algP (j + 1) (l.drop k)).1) (qb (algP (j + 1) (l.drop k)).2), .int .i64 0]) ∧ w1 = w') :=
    fun A' c' h => alg_any j hj A' c' _ (l.drop k) (by simp) w1 w1.heap.size (by omega) (drop_q hq k) (drop_6 h6 k) h
  have hnest := alg_nested (j + 1) (by omega) (by omega) (take_6 h6 k) (drop_6 h6 k)
  rw [List.take_append_drop] at hnest
  have hZ : Hid (∀ W : World, Calls Try.prog 30 #[.int .i64 (1 + (j : Int)), .slice (some ⟨W.heap.size, 0, none⟩) 2 2] (W.alloc (.cells #[.complex .f64 (qb (algP (j + 1) (l.take k)).1) (qb (algP (j + 1) (l.take k)).2), .complex .f64 (qb (algP (j + 1) (l.drop k)).1) (qb (algP (j + 1) (l.drop k)).2)] 23)) fun e w' =>
      e = .returned (.tuple #[.complex .f64 (qb (algP (j + 1) l).1) (qb (algP (j + 1) l).2), .int .i64 0]) ∧ W.alloc (.cells #[.complex .f64 (qb (algP (j + 1) (l.take k)).1) (qb (algP (j + 1) (l.take k)).2), .complex .f64 (qb (algP (j + 1) (l.drop k)).1) (qb (algP (j + 1) (l.drop k)).2)] 23) = w') := fun W => by
    rw [← hnest]
    exact alg_any j hj _ 2 2 [algP (j + 1) (l.take k), algP (j + 1) (l.drop k)] rfl _ (W.heap.size + 1) (by decide)
      (by intro x hx; simp only [List.mem_cons, List.not_mem_nil, or_false] at hx; rcases hx with rfl | rfl; exact algP_q (take_q hq k); exact algP_q (drop_q hq k))
      (by intro x hx; simp only [List.mem_cons, List.not_mem_nil, or_false] at hx; rcases hx with rfl | rfl; exact alg_right _ (take_6 h6 k); exact alg_right _ (drop_6 h6 k)) (Sl.laid W _ _ _ _ rfl)
  have hsd : Hid (vm (l.drop k) = (vm l).drop k) := (vm_drop l k).symm
  have HSL := hide hsl
  have HL : Hid (k = l.length → vm (l.drop k) = []) := fun e => by rw [List.drop_of_length_le (by omega)]; rfl
  have f1 := q_self (algP (j + 1) l).1 (algP_q hq).1
  have f2 := q_self (algP (j + 1) l).2 (algP_q hq).2
  clear hsl hK hnest hq h6 hst hke
  generalize (algP (j + 1) l) = z at *
  generalize qb z.1 = z1 at *
  generalize qb z.2 = z2 at *
  generalize qb (algP (j + 1) (l.take k)).1 = x1 at *
  generalize qb (algP (j + 1) (l.take k)).2 = x2 at *
  generalize qb (algP (j + 1) (l.drop k)).1 = y1 at *
  generalize qb (algP (j + 1) (l.drop k)).2 = y2 at *
  have HB := hide hb1
  clear hb1
  have hcap : cap ≤ 9223372036854775807 := by
    rcases hcase with ⟨_, _, h⟩ | ⟨g, _, h⟩
    · omega
    · unfold maxLen at h; omega
  rcases hcase with ⟨rfl, hln, rfl⟩ | ⟨g, rfl, _⟩
  · obtain rfl : l = [] := hln
    obtain rfl : k = 0 := by simpa using hkl
    have hY' := hide (hY.out none 0 (by rw [HL.out rfl]; exact Sl.nil))
    clear hY hsd HSL HL
    go_wp2_with fail
    refine HK.out.mono ?_
    rintro e w' ⟨rfl, rfl⟩
    go_wp2_with fail
    refine hX.out.mono ?_
    rintro e w' ⟨rfl, rfl⟩
    go_wp2_with fail
    refine hY'.out.mono ?_
    rintro e w' ⟨rfl, rfl⟩
    go_wp2_with fail
    refine (hZ.out w1).mono ?_
    rintro e w' ⟨rfl, rfl⟩
    have hb2 := (Below.refl w1.heap.size w1).alloc (Nat.le_refl _) (.cells #[.complex .f64 x1 x2, .complex .f64 y1 y2] 23)
    generalize w1.alloc (.cells #[.complex .f64 x1 x2, .complex .f64 y1 y2] 23) = w2 at hb2 ⊢
    have HB2 := hide hb2
    clear hb2
    go_wp2_with fail
    refine (hA.out w2 HB2.out).mono ?_
    rintro e w' ⟨rfl, rfl⟩
    go_wp2_with fail
    refine (combineRuns_walk _).mono ?_
    rintro e w' ⟨rfl, hb3⟩
    go_wp2
    go_ret
    exact ⟨rfl, (HB.out.trans (HB2.out.mono HB.out.size)).trans (hb3.mono (Nat.le_trans HB.out.size HB2.out.size))⟩
  · by_cases hkc : k = cap
    · have hY' := hY.out (some ⟨g, 0, none⟩) 0 (by rw [HL.out (by omega)]; exact Sl.nil)
      rw [show l.length - k = 0 by omega] at hY'
      have hY' := hide hY'
      subst hkc
      clear hY hsd HSL HL
      go_wp2_with fail
      refine HK.out.mono ?_
      rintro e w' ⟨rfl, rfl⟩
      go_wp2_with fail
      refine hX.out.mono ?_
      rintro e w' ⟨rfl, rfl⟩
      go_wp2_with fail
      refine hY'.out.mono ?_
      rintro e w' ⟨rfl, rfl⟩
      go_wp2_with fail
      refine (hZ.out w1).mono ?_
      rintro e w' ⟨rfl, rfl⟩
      have hb2 := (Below.refl w1.heap.size w1).alloc (Nat.le_refl _) (.cells #[.complex .f64 x1 x2, .complex .f64 y1 y2] 23)
      generalize w1.alloc (.cells #[.complex .f64 x1 x2, .complex .f64 y1 y2] 23) = w2 at hb2 ⊢
      have HB2 := hide hb2
      clear hb2
      go_wp2_with fail
      refine (hA.out w2 HB2.out).mono ?_
      rintro e w' ⟨rfl, rfl⟩
      go_wp2_with fail
      refine (combineRuns_walk _).mono ?_
      rintro e w' ⟨rfl, hb3⟩
      go_wp2
      go_ret
      exact ⟨rfl, (HB.out.trans (HB2.out.mono HB.out.size)).trans (hb3.mono (Nat.le_trans HB.out.size HB2.out.size))⟩
    · have hY' := hide (hY.out (some ⟨g, k, none⟩) (cap - k) (by have := HSL.out.drop k; rw [← hsd.out, Nat.zero_add] at this; exact this))
      have hkc' : k < cap := by omega
      clear hY hsd HSL HL hkc
      go_wp2_with fail
      refine HK.out.mono ?_
      rintro e w' ⟨rfl, rfl⟩
      go_wp2_with fail
      refine hX.out.mono ?_
      rintro e w' ⟨rfl, rfl⟩
      go_wp2_with fail
      refine hY'.out.mono ?_
      rintro e w' ⟨rfl, rfl⟩
      go_wp2_with fail
      refine (hZ.out w1).mono ?_
      rintro e w' ⟨rfl, rfl⟩
      have hb2 := (Below.refl w1.heap.size w1).alloc (Nat.le_refl _) (.cells #[.complex .f64 x1 x2, .complex .f64 y1 y2] 23)
      generalize w1.alloc (.cells #[.complex .f64 x1 x2, .complex .f64 y1 y2] 23) = w2 at hb2 ⊢
      have HB2 := hide hb2
      clear hb2
      go_wp2_with fail
      refine (hA.out w2 HB2.out).mono ?_
      rintro e w' ⟨rfl, rfl⟩
      go_wp2_with fail
      refine (combineRuns_walk _).mono ?_
      rintro e w' ⟨rfl, hb3⟩
      go_wp2
      go_ret
      exact ⟨rfl, (HB.out.trans (HB2.out.mono HB.out.size)).trans (hb3.mono (Nat.le_trans HB.out.size HB2.out.size))⟩
end Go.Proofs.Ytlkikaeboeaadaa
