/-
  CONTRACTS OF bailifflaw5.six AND row: decisions of numbers, in new memory.
-/
import Derived.Test.YtlkikaeboeaadaaCombC
import Derived.Test.YtlkikaeboeaadaaOpen
import Derived.Test.YtlkikaeboeaadaaAppend
namespace Go.Proofs.Ytlkikaeboeaadaa
open Go.RowKit
set_option linter.unusedVariables false

/-- The decision of a number. -/
def sixN (n : Int) : Nat × Nat := sixP (within n 0 5).toNat
theorem sixN_q (n : Int) : QP (sixN n) := sixP_q _
theorem six5_all (n : Int) (w : World) : Calls Try.prog 34 #[.int .i64 n] w fun e w' => e = .returned (.complex .f64 (qb (sixN n).1) (qb (sixN n).2)) ∧ w = w' := by
  obtain ⟨K, hKe⟩ : ∃ K : Nat, within n 0 5 = (K : Int) := ⟨_, (Int.toNat_of_nonneg (within_lo n 0 5 (by omega))).symm⟩
  have hK : K ≤ 5 := by have := within_hi n 0 5 (by omega); omega
  have hW := within_any n 0 5 w (by omega) (by omega) (by omega)
  unfold sixN
  rw [hKe] at hW ⊢
  rw [Int.toNat_natCast]
  have HW := hide hW
  clear hW hKe
  go_enter Try.func34, Try.ntmps34
  go_wp2_with fail
  refine HW.out.mono ?_
  rintro e w' ⟨rfl, rfl⟩
  clear HW
  obtain rfl | rfl | rfl | rfl | rfl | rfl : K = 0 ∨ K = 1 ∨ K = 2 ∨ K = 3 ∨ K = 4 ∨ K = 5 := by omega
  all_goals
    go_wp2
    go_ret
    exact ⟨rfl, rfl⟩
theorem infoM : (Try.prog.info? 23).map (fun i => (i.zero, i.size, i.bytes)) = some (some (.complex .f64 0 0), 1, 16) := by kernel_rfl
theorem one_vm (l : List (Nat × Nat)) : ∀ u ∈ vm l, u.oneCell' = true := by
  intro u hu
  simp only [vm, List.mem_map] at hu
  obtain ⟨m, _, rfl⟩ := hu
  rfl
theorem Sl.int {w : World} {B : Nat} {a : Option Addr} {l : List Int} {i : Nat} (h : Sl w B a (vints .i64 l)) (hi : i < l.length) :
    ∃ b off, a = some ⟨b, off, none⟩ ∧ b < B ∧ w.cell? ⟨b, off + i, none⟩ = some (.int .i64 l[i]) :=
  h.at (by simp [vints, hi])
/-- The decisions of the first twenty numbers. -/
def rowP (l : List Int) : List (Nat × Nat) := (l.take 20).map sixN
theorem rowP_length (l : List Int) : (rowP l).length = min 20 l.length := by simp [rowP]
theorem rowP_q (l : List Int) : QPs (rowP l) := by
  intro m hm
  simp only [rowP, List.mem_map] at hm
  obtain ⟨n, _, rfl⟩ := hm
  exact sixN_q n
theorem rowP_step (l : List Int) (k : Nat) (hk : k < l.length) (h20 : k < 20) : (rowP l).take (k + 1) = (rowP l).take k ++ [sixN l[k]] := by
  have h : (rowP l)[k]? = some (sixN l[k]) := by simp [rowP, h20, List.getElem?_eq_getElem hk]
  rw [List.take_add_one, h]; rfl
/-- New marks, owned; what was there as it was. -/
def MarksPost (w : World) (l : List (Nat × Nat)) (e : Ending) (w' : World) : Prop :=
  ∃ v, e = .returned v ∧ w'.ownsRow w.heap.size 23 1 v l.length (vm l) ∧ Below w.heap.size w w'
set_option maxHeartbeats 1000000 in
theorem row_any (a : Option Addr) (cap n : Nat) (l : List Int) (hn : l.length = n) (w : World) (hcap : n ≤ cap) (hm : cap ≤ maxLen) (hs : Sl w w.heap.size a (vints .i64 l)) :
    Calls Try.prog 32 #[.slice a n cap] w (MarksPost w (rowP l)) := by
  subst hn
  unfold maxLen at hm
  obtain ⟨i0, hi, hz0, hz1, hz2⟩ := info_parts infoM
  have Hi := hide hi
  have Hz0 := hide hz0
  have Hz1 := hide hz1
  have Hz2 := hide hz2
  clear hi hz0 hz1 hz2
  go_enter Try.func32, Try.ntmps32
  go_wp2
  go_loopw [3, 4] (fun v i wr => ∃ k : Nat, k ≤ 20 ∧ k ≤ l.length ∧ i = .int .i64 k ∧ wr.ownsRow w.heap.size 23 1 v k (vm ((rowP l).take k)) ∧ Below w.heap.size w wr) (fun _ i _ => 20 - (intOf i).toNat)
  case atStart => exact ⟨0, by omega, Nat.zero_le _, rfl, World.ownsRow_nil _ _ _ _, Below.refl _ _⟩
  case round =>
    obtain ⟨k, hk, hkl, rfl, hown, hbel⟩ := hrel
    by_cases hlt : k < l.length
    · have hd1 : decide (k < l.length) = true := by simp; omega
      by_cases h20 : k < 20
      · obtain ⟨b, off, rfl, hb0, hcell⟩ := (hs.below hbel).int hlt
        have hsix := hide (six5_all l[k] wr)
        have hstep : Hid (vm ((rowP l).take (k + 1)) = vm ((rowP l).take k) ++ vm [sixN l[k]]) := hide (by rw [rowP_step l k hlt h20, vm_append])
        generalize l[k] = z at hcell hsix hstep
        have HY := hide hstep.out
        clear hs hstep
        generalize hx : qb (sixN z).1 = x at hsix
        generalize hy : qb (sixN z).2 = y at hsix
        have hvm : Hid (vm [sixN z] = [.complex .f64 x y]) := by rw [← hx, ← hy]; rfl
        clear hx hy
        have HB := hide hbel
        have HO := hide hown
        clear hown
        go_wp2_with fail
        refine hsix.out.mono ?_
        rintro e w' ⟨rfl, rfl⟩
        have hown2 := HO.out.alloc (.cells #[.complex .f64 x y] 23)
        have hc2 : Sl (wr.alloc (.cells #[.complex .f64 x y] 23)) (wr.heap.size + 1) (some ⟨wr.heap.size, 0, none⟩) (vm [sixN z]) := by rw [hvm.out]; exact Sl.laid wr _ _ _ _ rfl
        have hb2 := HB.out.alloc HB.out.size (.cells #[.complex .f64 x y] 23)
        have HV : Hid ((vm [sixN z]).length = 1 * 1) := rfl
        have HM2 : Hid (∀ u ∈ vm [sixN z], u.oneCell' = true) := one_vm _
        go_wp2_with (at_builtin; refine wpList_app _ rfl (.tmp 15) (.tmp 21) 39 rfl w.heap.size 23 i0 (.complex .f64 0 0) 1 16 Try.underlying39 Hi.out Hz0.out Hz1.out Hz2.out rfl (by decide) _ k _ rfl hown2 (wr.heap.size + 1) (some ⟨wr.heap.size, 0, none⟩) 1 1 (vm [sixN z]) rfl HV.out hc2 HM2.out (by unfold maxLen; omega) (by omega) hb2.size ?_; intro v3 w3 hown3 hg3 hat3; have hb3 : Below w.heap.size w w3 := own_below hown2 hb2 hg3 (Nat.le_refl _) hb2.size; rw [← HY.out] at hown3)
        go_roundw
        case rel => exact ⟨k + 1, by omega, by omega, by go_num, hown3, hb3⟩
        case measure => simp [intOf]; omega
      · obtain rfl : k = 20 := by omega
        have hlen : (rowP l).length = 20 := by rw [rowP_length]; omega
        rw [List.take_of_length_le (by omega)] at hown
        have HO := hide hown
        clear hown
        go_wp2
        go_ret
        exact ⟨_, rfl, by rw [hlen]; exact HO.out, hbel⟩
    · obtain rfl : k = l.length := by omega
      have hlen : (rowP l).length = l.length := by rw [rowP_length]; omega
      rw [List.take_of_length_le (by omega)] at hown
      have HO := hide hown
      clear hown
      go_wp2
      go_ret
      exact ⟨_, rfl, by rw [hlen]; exact HO.out, hbel⟩
end Go.Proofs.Ytlkikaeboeaadaa
