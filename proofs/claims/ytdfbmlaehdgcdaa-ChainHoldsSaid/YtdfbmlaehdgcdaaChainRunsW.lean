/-
  THE WALK OF bailifflaw21.ChainRuns: it returns true; only new memory is laid.
-/
import Derived.Test.YtdfbmlaehdgcdaaChainClash
import Derived.Lib.SlBytesConst
namespace Go.Proofs.Ytdfbmlaehdgcdaa
open Go.RowKit
set_option linter.unusedVariables false

theorem Rws.of_sl {w : World} {B : Nat} {a : Option Addr} {vs : List Value} {l : List (List UInt8)} (hs : Sl w B a vs)
    (h : ∀ (i : Nat) (x : List UInt8), l[i]? = some x → ∃ a' c, vs[i]? = some (.slice a' x.length c) ∧ x.length ≤ c ∧ Sl w B a' (vbytes x)) : Rws w B a l := fun i x hx => by
  obtain ⟨a', c, hv, hc, hsx⟩ := h i x hx
  obtain ⟨b, off, e, hb, hcell⟩ := hs.at hv
  exact ⟨b, off, a', c, e, hb, hcell, hc, hsx⟩
theorem Rws.one {w : World} {B : Nat} {a a1 : Option Addr} {c1 : Nat} {x1 : List UInt8} (hs : Sl w B a [.slice a1 x1.length c1]) (h1 : x1.length ≤ c1) (s1 : Sl w B a1 (vbytes x1)) : Rws w B a [x1] :=
  Rws.of_sl hs fun i x hx => by
    match i, hx with
    | 0, hx => injection hx with hx; subst hx; exact ⟨a1, c1, rfl, h1, s1⟩
    | i + 1, hx => simp at hx
theorem Rws.two {w : World} {B : Nat} {a a1 a2 : Option Addr} {c1 c2 : Nat} {x1 x2 : List UInt8} (hs : Sl w B a [.slice a1 x1.length c1, .slice a2 x2.length c2]) (h1 : x1.length ≤ c1) (s1 : Sl w B a1 (vbytes x1)) (h2 : x2.length ≤ c2) (s2 : Sl w B a2 (vbytes x2)) : Rws w B a [x1, x2] :=
  Rws.of_sl hs fun i x hx => by
    match i, hx with
    | 0, hx => injection hx with hx; subst hx; exact ⟨a1, c1, rfl, h1, s1⟩
    | 1, hx => injection hx with hx; subst hx; exact ⟨a2, c2, rfl, h2, s2⟩
    | i + 2, hx => simp at hx
theorem Sl.laid' (w : World) (cs : Array Value) (t : TypeId) (m : Nat × Nat) (xs : List Value) (n : Nat) (hn : n = w.heap.size) (h : cs.toList = xs) :
    Sl (w.alloc (.cells cs t m)) (w.alloc (.cells cs t m)).heap.size (some ⟨n, 0, none⟩) xs := by
  subst hn; exact (Sl.laid w cs t m xs h).more (by simp)
theorem Sl.alloc {w : World} {a : Option Addr} {xs : List Value} (h : Sl w w.heap.size a xs) (o : Obj) : Sl (w.alloc o) (w.alloc o).heap.size a xs :=
  (h.below ((Below.refl _ _).alloc (Nat.le_refl _) o)).more (by simp)

theorem runs_1 : Fnv.part (Fnv.sums 0#64 [[97], [98]]) (Fnv.sums 0#64 [[97], [99]]) = 1 := by decide +kernel
theorem runs_2 : Fnv.part (Fnv.sums 0#64 [[97], [98]]) (Fnv.sums 0#64 [[97]]) = 1 := by decide +kernel
theorem runs_3 : Fnv.clash [[97], [98]] [[97], [98]] = -1 := by decide +kernel

set_option maxHeartbeats 1000000 in
theorem chainRuns_walk (w : World) :
    Calls Try.prog 8 #[] w fun e w' => e = .returned (.bool true) ∧ Below w.heap.size w w' := by
  have kc : ∀ (w : World) (C : Array Value) (n c g : Nat), g = w.heap.size → (convert 24 24 (.slice (some ⟨g, 0, none⟩) n c)).run Try.prog (w.alloc (.cells C 5)) = .ok (.slice (some ⟨g, 0, none⟩) n c) (w.alloc (.cells C 5 (C.size, C.size + 1))) := by
    intro w C n c g hg
    subst hg
    exact Lib.run_convert_bytes_const (P := Try.prog) w 24 5 C n c Try.underlying24 Try.underlying5
  go_enter Try.func8, Try.ntmps8
  go_wp2_with fail
  have sa := ((Sl.laid' w #[.int .u8 97] 5 (1, 2) (vbytes [97]) w.heap.size rfl rfl).alloc (.cells #[.int .u8 98] 5 (1, 2))).alloc (.cells #[.int .u8 99] 5 (1, 2))
  have sb := (Sl.laid' (w.alloc (.cells #[.int .u8 97] 5 (1, 2))) #[.int .u8 98] 5 (1, 2) (vbytes [98]) (w.heap.size + 1) (by simp) rfl).alloc (.cells #[.int .u8 99] 5 (1, 2))
  have sc := Sl.laid' ((w.alloc (.cells #[.int .u8 97] 5 (1, 2))).alloc (.cells #[.int .u8 98] 5 (1, 2))) #[.int .u8 99] 5 (1, 2) (vbytes [99]) (w.heap.size + 1 + 1) (by simp) rfl
  have hb3 : Below w.heap.size w (((w.alloc (.cells #[.int .u8 97] 5 (1, 2))).alloc (.cells #[.int .u8 98] 5 (1, 2))).alloc (.cells #[.int .u8 99] 5 (1, 2))) :=
    (((Below.refl _ _).alloc (Nat.le_refl _) _).alloc (by simp) _).alloc (by simp; omega) _
  have hz3 : w.heap.size + 1 + 1 + 1 = (((w.alloc (.cells #[.int .u8 97] 5 (1, 2))).alloc (.cells #[.int .u8 98] 5 (1, 2))).alloc (.cells #[.int .u8 99] 5 (1, 2))).heap.size := by simp
  have HZ3 := hide hz3
  clear hz3
  generalize ((w.alloc (.cells #[.int .u8 97] 5 (1, 2))).alloc (.cells #[.int .u8 98] 5 (1, 2))).alloc (.cells #[.int .u8 99] 5 (1, 2)) = w3 at sa sb sc hb3 HZ3 ⊢
  clear kc
  -- Sums of a and c
  have l1 : Rws (w3.alloc (.cells #[.slice (some ⟨w.heap.size, 0, none⟩) 1 1, .slice (some ⟨w.heap.size + 1 + 1, 0, none⟩) 1 1] 24)) (w3.alloc (.cells #[.slice (some ⟨w.heap.size, 0, none⟩) 1 1, .slice (some ⟨w.heap.size + 1 + 1, 0, none⟩) 1 1] 24)).heap.size (some ⟨w.heap.size + 1 + 1 + 1, 0, none⟩) [[97], [99]] :=
    Rws.two (Sl.laid' w3 _ 24 (0, 0) [.slice (some ⟨w.heap.size, 0, none⟩) ([97] : List UInt8).length 1, .slice (some ⟨w.heap.size + 1 + 1, 0, none⟩) ([99] : List UInt8).length 1] _ HZ3.out rfl) (Nat.le_refl _) (sa.alloc _) (Nat.le_refl _) (sc.alloc _)
  refine (sums_any _ 2 2 [[97], [99]] rfl _ (by decide) (by decide) l1).mono ?_
  rintro e w5 ⟨v1, rfl, hown1, hb5⟩
  have hb5' : Below w3.heap.size w3 w5 := ((Below.refl _ _).alloc (Nat.le_refl _) _).trans (hb5.mono (by simp))
  obtain ⟨A1, c1, rfl, hc1, hs1, _⟩ := own_slice hown1
  have sa5 := (sa.below hb5').more hb5'.size
  have sb5 := (sb.below hb5').more hb5'.size
  have hbw5 := hb3.trans (hb5'.mono hb3.size)
  clear sa sb sc hown1 hb5 hb5' l1 HZ3 hb3 hc1
  go_wp2_with fail
  -- Sums of a alone
  have l2 : Rws (w5.alloc (.cells #[.slice (some ⟨w.heap.size, 0, none⟩) 1 1] 24)) (w5.alloc (.cells #[.slice (some ⟨w.heap.size, 0, none⟩) 1 1] 24)).heap.size (some ⟨w5.heap.size, 0, none⟩) [[97]] :=
    Rws.one (Sl.laid' w5 _ 24 (0, 0) [.slice (some ⟨w.heap.size, 0, none⟩) ([97] : List UInt8).length 1] _ rfl rfl) (Nat.le_refl _) (sa5.alloc _)
  refine (sums_any _ 1 1 [[97]] rfl _ (by decide) (by decide) l2).mono ?_
  rintro e w6 ⟨v2, rfl, hown2, hb6⟩
  have hb6' : Below w5.heap.size w5 w6 := ((Below.refl _ _).alloc (Nat.le_refl _) _).trans (hb6.mono (by simp))
  obtain ⟨A2, c2, rfl, hc2, hs2, _⟩ := own_slice hown2
  have sa6 := (sa5.below hb6').more hb6'.size
  have sb6 := (sb5.below hb6').more hb6'.size
  have hs1' := (hs1.below hb6').more hb6'.size
  have hbw6 := hbw5.trans (hb6'.mono hbw5.size)
  clear sa5 sb5 hs1 hown2 hb6 hb6' l2 hbw5 hc2
  -- the row of a and b
  have l3 : Rws (w6.alloc (.cells #[.slice (some ⟨w.heap.size, 0, none⟩) 1 1, .slice (some ⟨w.heap.size + 1, 0, none⟩) 1 1] 24)) (w6.alloc (.cells #[.slice (some ⟨w.heap.size, 0, none⟩) 1 1, .slice (some ⟨w.heap.size + 1, 0, none⟩) 1 1] 24)).heap.size (some ⟨w6.heap.size, 0, none⟩) [[97], [98]] :=
    Rws.two (Sl.laid' w6 _ 24 (0, 0) [.slice (some ⟨w.heap.size, 0, none⟩) ([97] : List UInt8).length 1, .slice (some ⟨w.heap.size + 1, 0, none⟩) ([98] : List UInt8).length 1] _ rfl rfl) (Nat.le_refl _) (sa6.alloc _) (Nat.le_refl _) (sb6.alloc _)
  have hx1 := hs1'.alloc (.cells #[.slice (some ⟨w.heap.size, 0, none⟩) 1 1, .slice (some ⟨w.heap.size + 1, 0, none⟩) 1 1] 24)
  have hx2 := hs2.alloc (.cells #[.slice (some ⟨w.heap.size, 0, none⟩) 1 1, .slice (some ⟨w.heap.size + 1, 0, none⟩) 1 1] 24)
  have hbw7 := hbw6.alloc hbw6.size (.cells #[.slice (some ⟨w.heap.size, 0, none⟩) 1 1, .slice (some ⟨w.heap.size + 1, 0, none⟩) 1 1] 24)
  go_wp2_with fail
  clear sa6 sb6 hs1' hs2 hbw6
  have hc := check_any (some ⟨w6.heap.size, 0, none⟩) A1 2 2 c1 2 [[97], [98]] (Fnv.sums 0#64 [[97], [99]]) rfl (Fnv.sums_length _ _) _ (by decide) (by rw [Fnv.sums_length]; decide) (by decide) l3 hx1
  rw [runs_1] at hc
  refine hc.mono ?_
  rintro e w8 ⟨rfl, hb8⟩
  have l4 := (l3.below hb8).more hb8.size
  have hx4 := (hx2.below hb8).more hb8.size
  have hbw8 := hbw7.trans (hb8.mono hbw7.size)
  clear l3 hx1 hx2 hbw7 hb8 hc
  go_wp2_with fail
  have hc := check_any (some ⟨w6.heap.size, 0, none⟩) A2 2 2 c2 1 [[97], [98]] (Fnv.sums 0#64 [[97]]) rfl (Fnv.sums_length _ _) _ (by decide) (by rw [Fnv.sums_length]; decide) (by decide) l4 hx4
  rw [runs_2] at hc
  refine hc.mono ?_
  rintro e w9 ⟨rfl, hb9⟩
  have l5 := (l4.below hb9).more hb9.size
  have hbw9 := hbw8.trans (hb9.mono hbw8.size)
  clear l4 hx4 hbw8 hb9 hc
  go_wp2_with fail
  have hc := clash_any (some ⟨w6.heap.size, 0, none⟩) (some ⟨w6.heap.size, 0, none⟩) 2 2 2 2 [[97], [98]] [[97], [98]] rfl rfl _ (by decide) (by decide) (by decide) (by decide) l5 l5
  rw [runs_3] at hc
  refine hc.mono ?_
  rintro e w10 ⟨rfl, hb10⟩
  have l6 := (l5.below hb10).more hb10.size
  have hbw10 := hbw9.trans (hb10.mono hbw9.size)
  clear l5 hbw9 hb10 hc
  go_wp2_with fail
  refine (sums_any _ 2 2 [[97], [98]] rfl _ (by decide) (by decide) l6).mono ?_
  rintro e w11 ⟨v3, rfl, hown3, hb11⟩
  obtain ⟨A3, c3, rfl, hc3, hs3, _⟩ := own_slice hown3
  have l7 := (l6.below hb11).more hb11.size
  have hbw11 := hbw10.trans (hb11.mono hbw10.size)
  clear l6 hbw10 hb11 hown3
  go_wp2_with fail
  have hc := check_any (some ⟨w6.heap.size, 0, none⟩) A3 2 2 c3 2 [[97], [98]] (Fnv.sums 0#64 [[97], [98]]) rfl (Fnv.sums_length _ _) _ (by decide) (by rw [Fnv.sums_length]; decide) (by decide) l7 hs3
  rw [Fnv.part_yes] at hc
  refine hc.mono ?_
  rintro e w12 ⟨rfl, hb12⟩
  have hbw12 := hbw11.trans (hb12.mono hbw11.size)
  clear l7 hs3 hbw11 hb12 hc
  go_wp2
  go_ret
  exact ⟨rfl, hbw12⟩
end Go.Proofs.Ytdfbmlaehdgcdaa
