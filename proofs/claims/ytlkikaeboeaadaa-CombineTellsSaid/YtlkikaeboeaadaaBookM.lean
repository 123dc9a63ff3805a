/-
  CONTRACTS OF bailiffbook.Same, Roomy, Intact AT MARKS.
-/
import Derived.Test.YtlkikaeboeaadaaCombRef
import Derived.Test.YtlkikaeboeaadaaCombOrderP
import Derived.Laws.CopyOwn
import Derived.Deep.OwnRows
import Derived.Deep.QuietTactic
import Derived.BigQuiet
import Derived.Laws.Entries
namespace Go.Proofs.Ytlkikaeboeaadaa
open Go.RowKit
set_option linter.unusedVariables false

theorem run_store_cx (P : Program) (w : World) (a : Addr) (m : Mode) (k : FloatKind) (x y : Nat) : (store a (.complex k x y) m).run P w = stored P w a (.complex k x y) m := run_store P w a _ m rfl
attribute [local go_sem] run_store_cx
theorem setRow_alloc (w : World) (cur cs : Array Value) (t : TypeId) (fr : Nat × Nat) : (w.alloc (.cells cur t fr)).setRow w.heap.size cs = w.alloc (.cells cs t fr) := by
  unfold World.setRow World.alloc
  congr 1
  apply Array.ext
  · simp
  · intro i h1 h2
    simp only [Array.getElem_modify, Array.getElem_push]
    by_cases h : i < w.heap.size
    · simp [h, Nat.ne_of_gt h]
    · simp only [Array.size_modify, Array.size_push] at h1
      have : w.heap.size = i := by omega
      simp [this]
/-- A copy into a block that was just laid: the elements lie at its head. -/
theorem run_copy_new {P : Program} (w : World) (dT sT ty elem : TypeId) (t : TypeId) (a : Option Addr) (xs : List Value) (cap n B : Nat) (cur : List Value)
    (hu : P.underlying dT = some (.slice elem)) (hs : (P.info? elem).map (·.size) = some 1) (hx : Sl w B a xs) (hB : B ≤ w.heap.size) (hn : xs.length ≤ n) (hc : cur.length = n) (h1 : ∀ v ∈ xs, v.oneCell' = true) :
    (Builtin.copy_ #[dT, sT] ty #[.slice (some ⟨w.heap.size, 0, none⟩) n n, .slice a xs.length cap]).run P (w.alloc (.cells cur.toArray t)) =
      .ok (goInt xs.length) (w.alloc (.cells (xs ++ cur.drop xs.length).toArray t)) := by
  rcases xs with _ | ⟨x, xs⟩
  · simpa using run_copy_none (P := P) (w.alloc (.cells cur.toArray t)) dT sT ty elem (some ⟨w.heap.size, 0, none⟩) a n n 0 cap hu hs (by simp)
  · obtain ⟨b, off, rfl, hb, hcell⟩ := hx (by simp)
    have h := run_copy_row (P := P) (w.alloc (.cells cur.toArray t)) dT sT ty elem w.heap.size 0 n n ⟨b, off, none⟩ (x :: xs).length cap cur.toArray t (x :: xs) hu hs
      (heap_alloc_new w _) (by simp only [Nat.min_def]; split <;> omega)
      (fun j v hv => by
        have := hcell j v hv
        have ha : (⟨b, off, none⟩ : Addr).add j = ⟨b, off + j, none⟩ := by unfold Addr.add; split <;> simp_all
        rw [ha, World.cell?_alloc_lt w _ _ (by show b < _; omega)]; exact this)
      (by simp only [List.size_toArray]; omega) h1
    rw [h, setRow_alloc]
    simp
theorem madeCells_list (z : Value) (n : Nat) : madeCells #[z] n = (List.replicate n z).toArray := by
  rw [← toList_madeCells_one]
/-- It returned v, and drew at most. -/
def Quiet (v : Value) (w : World) (e : Ending) (w' : World) : Prop := e = .returned v ∧ ∃ n, w' = w.drewN n
/-- Are two lists the same? (a name that the walk does not open) -/
def sameB {α : Type} [BEq α] (l m : List α) : Bool := l == m
theorem take_step {α : Type} (l m : List α) (k : Nat) (h : l.take k = m.take k) (hl : k < l.length) (hm : k < m.length) (e : l[k] = m[k]) : l.take (k + 1) = m.take (k + 1) := by
  rw [List.take_add_one, List.take_add_one, h, List.getElem?_eq_getElem hl, List.getElem?_eq_getElem hm, e]
theorem sameB_iff {α : Type} [BEq α] [LawfulBEq α] (l m : List α) : sameB l m = true ↔ l = m := by unfold sameB; exact beq_iff_eq
theorem same_no {α : Type} [BEq α] [LawfulBEq α] (l m : List α) (h : ¬ l.length = m.length) : sameB l m = false := by
  rw [Bool.eq_false_iff]; intro e; exact h (by rw [(sameB_iff l m).1 e])
theorem same_no_at {α : Type} [BEq α] [LawfulBEq α] (l m : List α) (k : Nat) (hl : k < l.length) (hm : k < m.length) (h : ¬ l[k] = m[k]) : sameB l m = false := by
  rw [Bool.eq_false_iff]; intro e; obtain rfl := (sameB_iff l m).1 e; exact h rfl
theorem same_yes {α : Type} [BEq α] [LawfulBEq α] (l m : List α) (h : l.length = m.length) (hk : l.take l.length = m.take l.length) : sameB l m = true := by
  rw [sameB_iff, ← List.take_length (l := l), hk, h, List.take_length]

theorem mark_ne (m n : Nat × Nat) (hm : QP m) (hn : QP n) : ((FloatKind.f64.format.order (qb m.1) (qb n.1) == some .eq) && (FloatKind.f64.format.order (qb m.2) (qb n.2) == some .eq)) = (m == n) := mark_eq m.1 m.2 n.1 n.2 hm hn.1 hn.2
/-- Marks of the same list are the same. -/
theorem samem_any (a b : Option Addr) (c d i j : Nat) (l : List (Nat × Nat)) (hi : l.length = i) (hj : l.length = j) (w : World) (B : Nat) (hl : l.length ≤ 1000000) (hq : QPs l) (hs : Sl w B a (vm l)) (ht : Sl w B b (vm l)) :
    Calls Try.prog 45 #[.slice a i c, .slice b j d] w (Quiet (.bool true) w) := by
  subst hi hj
  have HQ := hide hq
  clear hq
  go_enter Try.func45, Try.ntmps45
  go_wp2
  go_loopw [5] (fun i wr => ∃ k n : Nat, k ≤ l.length ∧ i = .int .i64 k ∧ wr = w.drewN n) (fun i _ => l.length - (intOf i).toNat)
  case atStart => exact ⟨0, 0, by omega, rfl, rfl⟩
  case round =>
    obtain ⟨k, n, hk, rfl, rfl⟩ := hrel
    by_cases hlt : k < l.length
    · obtain ⟨x, ox, rfl, _, hcx⟩ := hs.mark hlt
      obtain ⟨y, oy, rfl, _, hcy⟩ := ht.mark hlt
      have e0 := q_self _ (HQ.out.at hlt).1
      have e1 := q_self _ (HQ.out.at hlt).2
      clear hs ht
      generalize qb l[k].1 = p at *
      generalize qb l[k].2 = q at *
      go_wp2
      go_quiet (fail)
      go_wp2
      go_roundw
      case rel => exact ⟨k + 1, n + nq, by omega, by go_num, rfl⟩
      case measure => simp [intOf]; omega
    · obtain rfl : k = l.length := by omega
      go_wp2
      go_ret
      exact ⟨rfl, n, rfl⟩

/-- A mark of two: no decision. -/
def two : Value := .complex .f64 4611686018427387904 0
def roomyM (l : List (Nat × Nat)) : List Value := vm l ++ List.replicate 80 two
theorem roomyM_length (l : List (Nat × Nat)) : (roomyM l).length = l.length + 80 := by simp [roomyM, vm]
def roomyMRow (l : List (Nat × Nat)) (j : Nat) : List Value := vm l ++ List.replicate j two ++ List.replicate (80 - j) (.complex .f64 0 0)
theorem roomyMRow_length (l : List (Nat × Nat)) (j : Nat) (hj : j ≤ 80) : (roomyMRow l j).length = l.length + 80 := by simp [roomyMRow, vm]; omega
theorem roomyMRow_zero (l : List (Nat × Nat)) : roomyMRow l 0 = vm l ++ (List.replicate (l.length + 80) (.complex .f64 0 0)).drop (vm l).length := by
  rw [vm_length, List.drop_replicate, show l.length + 80 - l.length = 80 by omega]
  unfold roomyMRow
  rw [show (List.replicate 0 two) = [] from rfl, List.append_nil]
theorem roomyMRow_done (l : List (Nat × Nat)) : roomyMRow l 80 = roomyM l := by
  unfold roomyMRow roomyM
  rw [show 80 - 80 = 0 from rfl, show (List.replicate 0 (Value.complex .f64 0 0)) = [] from rfl, List.append_nil]
theorem roomyMRow_step (l : List (Nat × Nat)) (j : Nat) (hj : j < 80) : (roomyMRow l j).set (l.length + j) (.complex .f64 4611686018427387904 0) = roomyMRow l (j + 1) := by
  unfold roomyMRow
  have hlen : (vm l ++ List.replicate j two).length = l.length + j := by simp [vm]
  rw [List.set_append, if_neg (by omega), hlen, Nat.sub_self, show 80 - j = (80 - (j + 1)) + 1 by omega, List.replicate_succ, List.set_cons_zero,
    List.replicate_succ']
  simp [two]
theorem infoM1 : (Try.prog.info? 23).map (fun i => (i.zero, i.size, i.bytes)) = some (some (.complex .f64 0 0), 1, 16) := infoM
theorem roomym_any (a : Option Addr) (cap n : Nat) (l : List (Nat × Nat)) (hn : l.length = n) (w : World) (hl : l.length ≤ 1000000) (hs : Sl w w.heap.size a (vm l)) :
    Calls Try.prog 35 #[.slice a n cap, .complex .f64 4611686018427387904 0] w fun e w' => e = .returned (.slice (some ⟨w.heap.size, 0, none⟩) (n + 80) (n + 80)) ∧
      w.alloc (.cells (roomyM l).toArray 23) = w' := by
  subst hn
  have hmk := fun w => run_make_row' (P := Try.prog) 39 23 (.complex .f64 0 0) 16 Try.underlying39 infoM rfl .i64 .i64 (l.length + 80) (by omega) (by omega) w
  rw [show ((l.length + 80 : Nat) : Int) = (l.length : Int) + 80 by omega, madeCells_list] at hmk
  have hcp := run_copy_new (P := Try.prog) w 39 39 3 23 23 a (vm l) cap (l.length + 80) w.heap.size (List.replicate (l.length + 80) (.complex .f64 0 0)) Try.underlying39 (by kernel_rfl) hs (Nat.le_refl _) (by simp [vm]) (by simp) (one_vm l)
  rw [← roomyMRow_zero l, vm_length] at hcp
  generalize List.replicate (l.length + 80) (Value.complex .f64 0 0) = Z at hmk hcp
  go_enter Try.func35, Try.ntmps35
  go_wp2
  go_loopw [6] (fun i wr => ∃ j : Nat, j ≤ 80 ∧ i = .int .i64 ((l.length + j : Nat) : Int) ∧ wr = w.alloc (.cells (roomyMRow l j).toArray 23)) (fun i _ => l.length + 80 - (intOf i).toNat)
  case atStart => exact ⟨0, by omega, rfl, rfl⟩
  case round =>
    obtain ⟨j, hj, rfl, rfl⟩ := hrel
    clear hmk hcp
    by_cases h80 : j < 80
    · have hlen := roomyMRow_length l j hj
      have hstep := hide (roomyMRow_step l j h80)
      generalize roomyMRow l j = R at hstep hlen ⊢
      have hcell : (w.alloc (.cells R.toArray 23)).cell? ⟨w.heap.size, l.length + j, none⟩ = some (R.getD (l.length + j) undef) := by
        rw [World.cell?_alloc_mark]
        simp [List.getD_eq_getElem?_getD, List.getElem?_eq_getElem (show l.length + j < R.length by omega)]
      clear hlen
      go_wp2
      go_roundw
      case rel => exact ⟨j + 1, by omega, by go_num, by rw [← hstep.out]⟩
      case measure => simp [intOf]; omega
    · obtain rfl : j = 80 := by omega
      rw [roomyMRow_done]
      go_wp2
      go_ret
      exact ⟨rfl, rfl⟩
theorem roomyM_take (l : List (Nat × Nat)) : (roomyM l).take l.length = vm l := by unfold roomyM; rw [List.take_left']; exact vm_length l
theorem roomyM_mark (l : List (Nat × Nat)) (j : Nat) (hj : j < 80) : (roomyM l)[l.length + j]? = some two := by
  unfold roomyM
  rw [List.getElem?_append_right (by rw [vm_length]; omega), vm_length, Nat.add_sub_cancel_left, List.getElem?_replicate, if_pos hj]
set_option maxHeartbeats 400000 in
theorem intactm_any (a b : Option Addr) (c d n k : Nat) (l : List (Nat × Nat)) (hn : l.length = n) (hk : l.length + 80 = k) (w : World) (B : Nat) (hl : l.length ≤ 100000) (hc : l.length ≤ c) (hq : QPs l) (hs : Sl w B a (roomyM l)) (ht : Sl w B b (vm l)) :
    Calls Try.prog 38 #[.slice a k c, .slice b n d, .complex .f64 4611686018427387904 0] w (Quiet (.bool true) w) := by
  subst hn hk
  have HC := hide (samem_any a b c d _ _ l rfl rfl w B (by omega) hq (by have := hs.take l.length; rwa [roomyM_take] at this) ht)
  have e0 : (FloatKind.f64.format.order 4611686018427387904 4611686018427387904 == some .eq) = true := by decide +kernel
  have e1 : (FloatKind.f64.format.order 0 0 == some .eq) = true := by decide +kernel
  clear hq
  go_enter Try.func38, Try.ntmps38
  go_wp2_with fail
  refine HC.out.mono ?_
  rintro e w' ⟨rfl, n, rfl⟩
  clear HC ht
  go_wp2
  go_loop [7] (fun i => ∃ j : Nat, j ≤ 80 ∧ i = .int .i64 ((l.length + j : Nat) : Int)) (fun i => l.length + 80 - (intOf i).toNat)
  case atStart => exact ⟨0, by omega, rfl⟩
  case round =>
    obtain ⟨j, hj, rfl⟩ := hrel
    by_cases h80 : j < 80
    · obtain ⟨x, ox, rfl, _, hcell⟩ := hs.at (roomyM_mark l j h80)
      unfold two at hcell
      clear hs
      go_wp2
      go_round
      case rel => exact ⟨j + 1, by omega, by go_num⟩
      case measure => simp [intOf]; omega
    · go_wp2
      go_ret
      exact ⟨rfl, n, rfl⟩
end Go.Proofs.Ytlkikaeboeaadaa
