/-
  CONTRACTS OF slices.Clone AT VALUES AND AT WHAT IS GIVEN OF AN ATTRIBUTE: new memory with the same cells.
-/
import Derived.Test.YtjaofdalmjiliaaAkPlace
import Derived.Test.YtjaofdalmjiliaaAppend
namespace Go.Proofs.Ytjaofdalmjiliaa
open Go.RowKit
set_option linter.unusedVariables false

theorem infoV : (Try.prog.info? 35).map (fun i => (i.zero, i.size, i.bytes)) = some (some (.agg #[.int .i64 0, .int .i64 0, .string ByteArray.empty]), 3, 32) := by kernel_rfl
theorem infoG : (Try.prog.info? 40).map (fun i => (i.zero, i.size, i.bytes)) = some (some (.agg #[.int .i64 0, .string ByteArray.empty, .slice none 0 0]), 3, 48) := by kernel_rfl
theorem one_cells3 {α : Type} (f : α → Value × Value × Value) (hf : ∀ x, (f x).1.oneCell' = true ∧ (f x).2.1.oneCell' = true ∧ (f x).2.2.oneCell' = true) : ∀ (l : List α), ∀ v ∈ cells3 (l.map f), v.oneCell' = true
  | [], v, h => by simp [cells3] at h
  | x :: l, v, h => by
    simp only [List.map_cons, cells3, List.mem_cons] at h
    rcases h with rfl | rfl | rfl | h
    · exact (hf x).1
    · exact (hf x).2.1
    · exact (hf x).2.2
    · exact one_cells3 f hf l v h
theorem one_cellsV (l : List V3) : ∀ v ∈ cellsV l, v.oneCell' = true := one_cells3 vcell (fun _ => ⟨rfl, rfl, rfl⟩) l
theorem one_cellsG (l : List Gm) : ∀ v ∈ cellsG l, v.oneCell' = true := one_cells3 gcell (fun _ => ⟨rfl, rfl, rfl⟩) l
theorem cellsV_len (l : List V3) : (cellsV l).length = l.length * 3 := by unfold cellsV; rw [cells3_length, List.length_map]; omega
theorem cellsG_len (l : List Gm) : (cellsG l).length = l.length * 3 := by unfold cellsG; rw [cells3_length, List.length_map]; omega
theorem cells3_append (l m : List (Value × Value × Value)) : cells3 (l ++ m) = cells3 l ++ cells3 m := by
  induction l with
  | nil => rfl
  | cons x l ih => simp only [List.cons_append, cells3, ih]
theorem cellsV_append (l m : List V3) : cellsV (l ++ m) = cellsV l ++ cellsV m := by unfold cellsV; rw [List.map_append, cells3_append]
theorem cellsG_append (l m : List Gm) : cellsG (l ++ m) = cellsG l ++ cellsG m := by unfold cellsG; rw [List.map_append, cells3_append]
theorem nil_cells {w : World} {B : Nat} {xs : List Value} (h : Sl w B none xs) : xs = [] := by
  cases xs with
  | nil => rfl
  | cons x l =>
    obtain ⟨b, off, e, _⟩ := h (by simp)
    cases e
theorem nil_cellsV {l : List V3} (h : cellsV l = []) : l = [] := by
  cases l with
  | nil => rfl
  | cons x l => cases h
theorem nil_cellsG {l : List Gm} (h : cellsG l = []) : l = [] := by
  cases l with
  | nil => rfl
  | cons x l => cases h
/-- New values, owned; what was there as it was. -/
def ValsPost (w : World) (l : List V3) (e : Ending) (w' : World) : Prop :=
  ∃ v, e = .returned v ∧ w'.ownsRow w.heap.size 35 3 v l.length (cellsV l) ∧ Below w.heap.size w w'
def GivensPost (w : World) (l : List Gm) (e : Ending) (w' : World) : Prop :=
  ∃ v, e = .returned v ∧ w'.ownsRow w.heap.size 40 3 v l.length (cellsG l) ∧ Below w.heap.size w w'
set_option maxHeartbeats 400000 in
theorem clonev_any (a : Option Addr) (c n : Nat) (l : List V3) (hn : l.length = n) (w : World) (hl : l.length ≤ 1000000) (hs : Sl w w.heap.size a (cellsV l)) :
    Calls Try.prog 23 #[.slice a n c] w (ValsPost w l) := by
  subst hn
  obtain ⟨i0, hi, hz0, hz1, hz2⟩ := info_parts infoV
  have Hi := hide hi
  have Hz0 := hide hz0
  have Hz1 := hide hz1
  have Hz2 := hide hz2
  clear hi hz0 hz1 hz2
  rcases a with _ | ad
  · have hnil := nil_cellsV (nil_cells hs)
    have heq := Lib.run_eql_slice_nil (P := Try.prog) w 22 35 none l.length c 0 0 Try.underlying22
    have HN := hide hnil
    clear hs hnil
    go_enter Try.func23, Try.ntmps23
    go_wp2
    go_ret
    exact ⟨_, rfl, by rw [HN.out]; exact World.ownsRow_nil _ _ _ _, Below.refl _ _⟩
  · have heq := Lib.run_eql_slice_nil (P := Try.prog) w 22 35 (some ad) l.length c 0 0 Try.underlying22
    have hown0 : (w.alloc (.cells #[] 35)).ownsRow w.heap.size 35 3 (.slice (some ⟨w.heap.size, 0, none⟩) 0 0) 0 [] := World.ownsRow_made w #[] 0 (Nat.le_refl _) (by simp [maxLen]) rfl
    have hb0 : Below w.heap.size w (w.alloc (.cells #[] 35)) := (Below.refl _ _).alloc (Nat.le_refl _) _
    have HV : Hid ((cellsV l).length = l.length * 3) := hide (cellsV_len l)
    have HS := hide (hs.below hb0)
    have HO := hide (one_cellsV l)
    have H0 := hide hown0
    have HB := hide hb0
    clear hs hown0 hb0
    go_enter Try.func23, Try.ntmps23
    go_wp2_with (at_builtin; refine wpList_app _ rfl (.tmp 5) (.tmp 6) 22 rfl w.heap.size 35 i0 (.agg #[.int .i64 0, .int .i64 0, .string ByteArray.empty]) 3 32 Try.underlying22 Hi.out Hz0.out Hz1.out Hz2.out rfl (by decide) (.slice (some ⟨w.heap.size, 0, none⟩) 0 0) 0 [] rfl H0.out w.heap.size (some ad) l.length c (cellsV l) rfl HV.out HS.out HO.out (by unfold maxLen; omega) (by omega) (by simp) ?_; intro v1 w1 hown1 hg1 hat1; have hb1 : Below w.heap.size w w1 := own_below H0.out HB.out hg1 (Nat.le_refl _) (by simp); rw [Nat.zero_add, List.nil_append] at hown1)
    go_ret
    exact ⟨_, rfl, hown1, hb1⟩
set_option maxHeartbeats 400000 in
theorem cloneg_any (a : Option Addr) (c n : Nat) (l : List Gm) (hn : l.length = n) (w : World) (hl : l.length ≤ 1000000) (hs : Sl w w.heap.size a (cellsG l)) :
    Calls Try.prog 24 #[.slice a n c] w (GivensPost w l) := by
  subst hn
  obtain ⟨i0, hi, hz0, hz1, hz2⟩ := info_parts infoG
  have Hi := hide hi
  have Hz0 := hide hz0
  have Hz1 := hide hz1
  have Hz2 := hide hz2
  clear hi hz0 hz1 hz2
  rcases a with _ | ad
  · have hnil := nil_cellsG (nil_cells hs)
    have heq := Lib.run_eql_slice_nil (P := Try.prog) w 32 40 none l.length c 0 0 Try.underlying32
    have HN := hide hnil
    clear hs hnil
    go_enter Try.func24, Try.ntmps24
    go_wp2
    go_ret
    exact ⟨_, rfl, by rw [HN.out]; exact World.ownsRow_nil _ _ _ _, Below.refl _ _⟩
  · have heq := Lib.run_eql_slice_nil (P := Try.prog) w 32 40 (some ad) l.length c 0 0 Try.underlying32
    have hown0 : (w.alloc (.cells #[] 40)).ownsRow w.heap.size 40 3 (.slice (some ⟨w.heap.size, 0, none⟩) 0 0) 0 [] := World.ownsRow_made w #[] 0 (Nat.le_refl _) (by simp [maxLen]) rfl
    have hb0 : Below w.heap.size w (w.alloc (.cells #[] 40)) := (Below.refl _ _).alloc (Nat.le_refl _) _
    have HV : Hid ((cellsG l).length = l.length * 3) := hide (cellsG_len l)
    have HS := hide (hs.below hb0)
    have HO := hide (one_cellsG l)
    have H0 := hide hown0
    have HB := hide hb0
    clear hs hown0 hb0
    go_enter Try.func24, Try.ntmps24
    go_wp2_with (at_builtin; refine wpList_app _ rfl (.tmp 5) (.tmp 6) 32 rfl w.heap.size 40 i0 (.agg #[.int .i64 0, .string ByteArray.empty, .slice none 0 0]) 3 48 Try.underlying32 Hi.out Hz0.out Hz1.out Hz2.out rfl (by decide) (.slice (some ⟨w.heap.size, 0, none⟩) 0 0) 0 [] rfl H0.out w.heap.size (some ad) l.length c (cellsG l) rfl HV.out HS.out HO.out (by unfold maxLen; omega) (by omega) (by simp) ?_; intro v1 w1 hown1 hg1 hat1; have hb1 : Below w.heap.size w w1 := own_below H0.out HB.out hg1 (Nat.le_refl _) (by simp); rw [Nat.zero_add, List.nil_append] at hown1)
    go_ret
    exact ⟨_, rfl, hown1, hb1⟩
end Go.Proofs.Ytjaofdalmjiliaa
