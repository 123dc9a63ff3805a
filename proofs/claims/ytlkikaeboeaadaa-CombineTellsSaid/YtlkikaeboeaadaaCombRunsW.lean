/-
  THE WALK OF bailifflaw5.CombineRuns: it returns true; only new memory is laid.
-/
import Derived.Test.YtlkikaeboeaadaaCombRow
namespace Go.Proofs.Ytlkikaeboeaadaa
open Go.RowKit
set_option linter.unusedVariables false

theorem all_lit (alg : Int) (a : Option Addr) (c n : Nat) (l : List (Nat × Nat)) (hn : l.length = n) (w : World) (B : Nat) (r : Value) (hc : n ≤ maxLen) (hq : QPs l) (hs : Sl w B a (vm l)) (hr : mkE (allP alg l) = r) :
    Calls Try.prog 30 #[.int .i64 alg, .slice a n c] w fun e w' => e = .returned r ∧ w = w' := by
  rw [← hr]; exact all_any alg a c n l hn w B hc hq hs
theorem small (n : Nat) (h : n ≤ 1000000) : n ≤ maxLen := by unfold maxLen; omega
set_option maxHeartbeats 2000000 in
theorem combineRuns_walk (w : World) : Calls Try.prog 9 #[] w fun e w' => e = .returned (.bool true) ∧ Below w.heap.size w w' := by
  have o1 : (FloatKind.f64.format.order 4607182418800017408 4607182418800017408 == some .eq) = true := by decide +kernel
  have o2 : (FloatKind.f64.format.order 4602678819172646912 4602678819172646912 == some .eq) = true := by decide +kernel
  have o3 : (FloatKind.f64.format.order 0 0 == some .eq) = true := by decide +kernel
  have hb0 := hide (Below.refl w.heap.size w)
  go_enter Try.func9, Try.ntmps9
  have hs1 : Sl (w.alloc (.cells #[.complex .f64 4607182418800017408 0, .complex .f64 0 4602678819172646912] 23)) (w.heap.size + 1) (some ⟨w.heap.size, 0, none⟩) (vm [(4, 0), (0, 2)]) := Sl.laid w _ _ _ _ rfl
  have h1 := hide (all_lit 1 (some ⟨w.heap.size, 0, none⟩) 2 2 [(4, 0), (0, 2)] rfl _ _ (.tuple #[.complex .f64 4602678819172646912 4602678819172646912, .int .i64 0]) (small _ (by decide)) (by unfold QPs QP; decide) hs1 (by kernel_rfl))
  have hb1 := hide (hb0.out.alloc hb0.out.size (.cells #[.complex .f64 4607182418800017408 0, .complex .f64 0 4602678819172646912] 23))
  clear hb0 hs1
  go_wp2_with fail
  refine h1.out.mono ?_
  rintro e w' ⟨rfl, rfl⟩
  clear h1
  generalize w.alloc (.cells #[.complex .f64 4607182418800017408 0, .complex .f64 0 4602678819172646912] 23) = w1 at hb1 ⊢
  have hs2 : Sl (w1.alloc (.cells #[.complex .f64 4607182418800017408 0, .complex .f64 0 4602678819172646912] 23)) (w1.heap.size + 1) (some ⟨w1.heap.size, 0, none⟩) (vm [(4, 0), (0, 2)]) := Sl.laid w1 _ _ _ _ rfl
  have h2 := hide (all_lit 2 (some ⟨w1.heap.size, 0, none⟩) 2 2 [(4, 0), (0, 2)] rfl _ _ (.tuple #[.complex .f64 4607182418800017408 0, .int .i64 0]) (small _ (by decide)) (by unfold QPs QP; decide) hs2 (by kernel_rfl))
  have hb2 := hide (hb1.out.alloc hb1.out.size (.cells #[.complex .f64 4607182418800017408 0, .complex .f64 0 4602678819172646912] 23))
  clear hb1 hs2
  go_wp2_with fail
  refine h2.out.mono ?_
  rintro e w' ⟨rfl, rfl⟩
  clear h2
  generalize w1.alloc (.cells #[.complex .f64 4607182418800017408 0, .complex .f64 0 4602678819172646912] 23) = w2 at hb2 ⊢
  have hs3 : Sl (w2.alloc (.cells #[.complex .f64 0 0, .complex .f64 0 4602678819172646912, .complex .f64 4607182418800017408 0] 23)) (w2.heap.size + 1) (some ⟨w2.heap.size, 0, none⟩) (vm [(0, 0), (0, 2), (4, 0)]) := Sl.laid w2 _ _ _ _ rfl
  have h3 := hide (all_lit 3 (some ⟨w2.heap.size, 0, none⟩) 3 3 [(0, 0), (0, 2), (4, 0)] rfl _ _ (.tuple #[.complex .f64 0 4602678819172646912, .int .i64 0]) (small _ (by decide)) (by unfold QPs QP; decide) hs3 (by kernel_rfl))
  have hb3 := hide (hb2.out.alloc hb2.out.size (.cells #[.complex .f64 0 0, .complex .f64 0 4602678819172646912, .complex .f64 4607182418800017408 0] 23))
  clear hb2 hs3
  go_wp2_with fail
  refine h3.out.mono ?_
  rintro e w' ⟨rfl, rfl⟩
  clear h3
  generalize w2.alloc (.cells #[.complex .f64 0 0, .complex .f64 0 4602678819172646912, .complex .f64 4607182418800017408 0] 23) = w3 at hb3 ⊢
  have hs4 : Sl (w3.alloc (.cells #[.complex .f64 4607182418800017408 0, .complex .f64 0 0] 23)) (w3.heap.size + 1) (some ⟨w3.heap.size, 0, none⟩) (vm [(4, 0), (0, 0)]) := Sl.laid w3 _ _ _ _ rfl
  have h4 := hide (all_lit 4 (some ⟨w3.heap.size, 0, none⟩) 2 2 [(4, 0), (0, 0)] rfl _ _ (.tuple #[.complex .f64 4607182418800017408 0, .int .i64 0]) (small _ (by decide)) (by unfold QPs QP; decide) hs4 (by kernel_rfl))
  have hb4 := hide (hb3.out.alloc hb3.out.size (.cells #[.complex .f64 4607182418800017408 0, .complex .f64 0 0] 23))
  clear hb3 hs4
  go_wp2_with fail
  refine h4.out.mono ?_
  rintro e w' ⟨rfl, rfl⟩
  clear h4
  generalize w3.alloc (.cells #[.complex .f64 4607182418800017408 0, .complex .f64 0 0] 23) = w4 at hb4 ⊢
  have h5 := hide (all_lit 5 none 0 0 [] rfl w4 0 (.tuple #[.complex .f64 0 4607182418800017408, .int .i64 0]) (small _ (by decide)) (by unfold QPs QP; decide) Sl.nil (by kernel_rfl))
  go_wp2_with fail
  refine h5.out.mono ?_
  rintro e w' ⟨rfl, rfl⟩
  go_wp2
  go_ret
  exact ⟨rfl, hb4.out⟩
end Go.Proofs.Ytlkikaeboeaadaa
