/-
  CONTRACTS OF THE STATEMENTS' OWN HELPERS (package bailiffbook): Within brings a number into bounds; Same holds two rows of bytes, or of words, against each other. Nothing in memory turns.
-/
import Derived.Test.YtinlnfhicnejmaaRows
import Derived.Test.YtinlnfhicnejmaaBase
import Derived.Laws.CopyOwn
import Derived.Deep.OwnRows
import Derived.Deep.QuietTactic
import Derived.BigQuiet
namespace Go.Proofs.Ytinlnfhicnejmaa
open Go.RowKit

/-- A number brought into lo .. hi. -/
def within (n lo hi : Int) : Int := lo + n % (hi - lo + 1)
theorem within_lo (n lo hi : Int) (h : lo ≤ hi) : lo ≤ within n lo hi := by
  unfold within; have := Int.emod_nonneg n (show hi - lo + 1 ≠ 0 by omega); omega
theorem within_hi (n lo hi : Int) (h : lo ≤ hi) : within n lo hi ≤ hi := by
  unfold within; have := Int.emod_lt_of_pos n (show 0 < hi - lo + 1 by omega); omega

theorem within_any (n lo hi : Int) (w : World) (h1 : 0 ≤ lo) (h2 : lo ≤ hi) (h3 : hi ≤ 1000000) :
    Calls Try.prog 27 #[.int .i64 n, .int .i64 lo, .int .i64 hi] w fun e w' => e = .returned (.int .i64 (within n lo hi)) ∧ w = w' := by
  have hm := Int.tmod_lt_of_pos n (show 0 < hi - lo + 1 by omega)
  have hm2 : -(hi - lo + 1) < n.tmod (hi - lo + 1) := by have := Int.lt_tmod_of_pos n (show 0 < hi - lo + 1 by omega); omega
  have hme := hide (Int.tmod_eq_emod (a := n) (b := hi - lo + 1))
  by_cases h0 : n.tmod (hi - lo + 1) < 0
  · have he : within n lo hi = lo + (n.tmod (hi - lo + 1) + hi - lo + 1) := by
      unfold within
      have := Int.emod_nonneg n (show hi - lo + 1 ≠ 0 by omega)
      have := Int.emod_lt_of_pos n (show 0 < hi - lo + 1 by omega)
      have h4 := hme.out
      split at h4
      · omega
      · rw [h4]; omega
    have He := hide he
    clear hme he
    go_enter Try.func27, Try.ntmps27
    go_wp2
    go_ret
    exact ⟨by rw [He.out]; rfl, rfl⟩
  · have he : within n lo hi = lo + n.tmod (hi - lo + 1) := by
      unfold within
      have := Int.emod_nonneg n (show hi - lo + 1 ≠ 0 by omega)
      have := Int.emod_lt_of_pos n (show 0 < hi - lo + 1 by omega)
      have h4 := hme.out
      split at h4
      · omega
      · exfalso
        omega
    have He := hide he
    clear hme he
    go_enter Try.func27, Try.ntmps27
    go_wp2
    go_ret
    exact ⟨by rw [He.out]; rfl, rfl⟩
theorem setRow_alloc (w : World) (cur cs : Array Value) (t : TypeId) (fr : Nat × Nat) : (w.alloc (.cells cur t fr)).setRow w.heap.size cs = w.alloc (.cells cs t fr) := by
  unfold World.setRow World.alloc
  congr 1
  apply Array.ext
  · simp
  · intro i h1 h2
    simp only [Array.getElem_modify, Array.getElem_push]
    by_cases h : i < w.heap.size
    · simp [h, Nat.ne_of_gt h]
    · simp only [Array.size_modify, Array.size_push] at h1
      have : w.heap.size = i := by omega
      simp [this]
/-- A copy into a block that was just laid: the elements lie at its head. -/
theorem run_copy_new {P : Program} (w : World) (dT sT ty elem : TypeId) (t : TypeId) (a : Option Addr) (xs : List Value) (cap n B : Nat) (cur : List Value)
    (hu : P.underlying dT = some (.slice elem)) (hs : (P.info? elem).map (·.size) = some 1) (hx : Sl w B a xs) (hB : B ≤ w.heap.size) (hn : xs.length ≤ n) (hc : cur.length = n) (h1 : ∀ v ∈ xs, v.oneCell' = true) :
    (Builtin.copy_ #[dT, sT] ty #[.slice (some ⟨w.heap.size, 0, none⟩) n n, .slice a xs.length cap]).run P (w.alloc (.cells cur.toArray t)) =
      .ok (goInt xs.length) (w.alloc (.cells (xs ++ cur.drop xs.length).toArray t)) := by
  rcases xs with _ | ⟨x, xs⟩
  · simpa using run_copy_none (P := P) (w.alloc (.cells cur.toArray t)) dT sT ty elem (some ⟨w.heap.size, 0, none⟩) a n n 0 cap hu hs (by simp)
  · obtain ⟨b, off, rfl, hb, hcell⟩ := hx (by simp)
    have h := run_copy_row (P := P) (w.alloc (.cells cur.toArray t)) dT sT ty elem w.heap.size 0 n n ⟨b, off, none⟩ (x :: xs).length cap cur.toArray t (x :: xs) hu hs
      (heap_alloc_new w _) (by simp only [Nat.min_def]; split <;> omega)
      (fun j v hv => by
        have := hcell j v hv
        have ha : (⟨b, off, none⟩ : Addr).add j = ⟨b, off + j, none⟩ := by unfold Addr.add; split <;> simp_all
        rw [ha, World.cell?_alloc_lt w _ _ (by show b < _; omega)]; exact this)
      (by simp only [List.size_toArray]; omega) h1
    rw [h, setRow_alloc]
    simp
theorem infoU8 : (Try.prog.info? 5).map (fun i => (i.zero, i.size, i.bytes)) = some (some (.int .u8 0), 1, 1) := by kernel_rfl
theorem one_vbytes (l : List UInt8) : ∀ v ∈ vbytes l, v.oneCell' = true := by
  intro v hv
  simp only [vbytes, List.mem_map] at hv
  obtain ⟨c, _, rfl⟩ := hv
  rfl
theorem madeCells_list (z : Value) (n : Nat) : madeCells #[z] n = (List.replicate n z).toArray := by
  rw [← toList_madeCells_one]
/-- A list with its room of 80 marks behind it. -/
def roomy (l : List UInt8) (m : UInt8) : List UInt8 := l ++ List.replicate 80 m
theorem roomy_length (l : List UInt8) (m : UInt8) : (roomy l m).length = l.length + 80 := by simp [roomy]
/-- .. as it is made: j marks are laid. -/
def roomyRow (l : List UInt8) (m : UInt8) (j : Nat) : List Value := vbytes (l ++ List.replicate j m) ++ List.replicate (80 - j) (.int .u8 0)
theorem roomyRow_length (l : List UInt8) (m : UInt8) (j : Nat) (hj : j ≤ 80) : (roomyRow l m j).length = l.length + 80 := by simp [roomyRow, vbytes]; omega
theorem roomyRow_zero (l : List UInt8) (m : UInt8) : roomyRow l m 0 = vbytes l ++ (List.replicate (l.length + 80) (.int .u8 0)).drop (vbytes l).length := by
  rw [vbytes_length, List.drop_replicate, show l.length + 80 - l.length = 80 by omega]
  unfold roomyRow
  rw [show (List.replicate 0 m) = [] from rfl, List.append_nil]
theorem roomyRow_done (l : List UInt8) (m : UInt8) : roomyRow l m 80 = vbytes (roomy l m) := by
  unfold roomyRow roomy
  rw [show 80 - 80 = 0 from rfl, show (List.replicate 0 (Value.int .u8 0)) = [] from rfl, List.append_nil]
theorem roomyRow_step (l : List UInt8) (m : UInt8) (j : Nat) (hj : j < 80) : (roomyRow l m j).set (l.length + j) (.int .u8 (m.toNat : Int)) = roomyRow l m (j + 1) := by
  unfold roomyRow
  have hlen : (vbytes (l ++ List.replicate j m)).length = l.length + j := by simp [vbytes]
  rw [List.set_append, if_neg (by omega), hlen, Nat.sub_self, show 80 - j = (80 - (j + 1)) + 1 by omega, List.replicate_succ, List.set_cons_zero,
    List.replicate_succ' , ← List.append_assoc, vbytes_append (l ++ List.replicate j m), List.append_assoc]
  rfl
set_option maxHeartbeats 400000 in
theorem roomy_any (a : Option Addr) (cap n : Nat) (l : List UInt8) (hn : l.length = n) (m : UInt8) (w : World) (hl : l.length ≤ 1000000) (hs : Sl w w.heap.size a (vbytes l)) :
    Calls Try.prog 23 #[.slice a n cap, .int .u8 m.toNat] w fun e w' => e = .returned (.slice (some ⟨w.heap.size, 0, none⟩) (n + 80) (n + 80)) ∧
      w.alloc (.cells (vbytes (roomy l m)).toArray 5) = w' := by
  subst hn
  have hmk := fun w => run_make_row' (P := Try.prog) 24 5 (.int .u8 0) 1 Try.underlying24 infoU8 rfl .i64 .i64 (l.length + 80) (by omega) (by omega) w
  rw [show ((l.length + 80 : Nat) : Int) = (l.length : Int) + 80 by omega, madeCells_list] at hmk
  have hcp := run_copy_new (P := Try.prog) w 24 24 3 5 5 a (vbytes l) cap (l.length + 80) w.heap.size (List.replicate (l.length + 80) (.int .u8 0)) Try.underlying24 (by kernel_rfl) hs (Nat.le_refl _) (by simp [vbytes]) (by simp) (one_vbytes l)
  rw [← roomyRow_zero l m, vbytes_length] at hcp
  generalize List.replicate (l.length + 80) (Value.int .u8 0) = Z at hmk hcp
  go_enter Try.func23, Try.ntmps23
  go_wp2
  go_loopw [6] (fun i wr => ∃ j : Nat, j ≤ 80 ∧ i = .int .i64 ((l.length + j : Nat) : Int) ∧ wr = w.alloc (.cells (roomyRow l m j).toArray 5)) (fun i _ => l.length + 80 - (intOf i).toNat)
  case atStart => exact ⟨0, by omega, rfl, rfl⟩
  case round =>
    obtain ⟨j, hj, rfl, rfl⟩ := hrel
    clear hmk hcp
    by_cases h80 : j < 80
    · have hlen := roomyRow_length l m j hj
      have hstep := hide (roomyRow_step l m j h80)
      generalize roomyRow l m j = R at hstep hlen ⊢
      have hcell : (w.alloc (.cells R.toArray 5)).cell? ⟨w.heap.size, l.length + j, none⟩ = some (R.getD (l.length + j) undef) := by
        rw [World.cell?_alloc_mark]
        simp [List.getD_eq_getElem?_getD, List.getElem?_eq_getElem (show l.length + j < R.length by omega)]
      clear hlen
      go_wp2
      go_roundw
      case rel => exact ⟨j + 1, by omega, by go_num, by rw [← hstep.out]⟩
      case measure => simp [intOf]; omega
    · obtain rfl : j = 80 := by omega
      rw [roomyRow_done]
      go_wp2
      go_ret
      exact ⟨rfl, rfl⟩
/-- It returned v, and drew at most. -/
def Quiet (v : Value) (w : World) (e : Ending) (w' : World) : Prop := e = .returned v ∧ ∃ n, w' = w.drewN n
/-- Are two lists the same? (a name that the walk does not open) -/
def sameB {α : Type} [BEq α] (l m : List α) : Bool := l == m
theorem byte_ne (a b : UInt8) : ((a.toNat : Int) != (b.toNat : Int)) = !(a == b) := by
  by_cases h : a = b
  · subst h; simp
  · have : ¬ ((a.toNat : Int) = b.toNat) := fun e => h (UInt8.toNat_inj.1 (by omega))
    simp [this, bne, beq_eq_false_iff_ne.2 h]
theorem take_step {α : Type} (l m : List α) (k : Nat) (h : l.take k = m.take k) (hl : k < l.length) (hm : k < m.length) (e : l[k] = m[k]) : l.take (k + 1) = m.take (k + 1) := by
  rw [List.take_add_one, List.take_add_one, h, List.getElem?_eq_getElem hl, List.getElem?_eq_getElem hm, e]
theorem sameB_iff {α : Type} [BEq α] [LawfulBEq α] (l m : List α) : sameB l m = true ↔ l = m := by unfold sameB; exact beq_iff_eq
theorem same_no {α : Type} [BEq α] [LawfulBEq α] (l m : List α) (h : ¬ l.length = m.length) : sameB l m = false := by
  rw [Bool.eq_false_iff]; intro e; exact h (by rw [(sameB_iff l m).1 e])
theorem same_no_at {α : Type} [BEq α] [LawfulBEq α] (l m : List α) (k : Nat) (hl : k < l.length) (hm : k < m.length) (h : ¬ l[k] = m[k]) : sameB l m = false := by
  rw [Bool.eq_false_iff]; intro e; obtain rfl := (sameB_iff l m).1 e; exact h rfl
theorem same_yes {α : Type} [BEq α] [LawfulBEq α] (l m : List α) (h : l.length = m.length) (hk : l.take l.length = m.take l.length) : sameB l m = true := by
  rw [sameB_iff, ← List.take_length (l := l), hk, h, List.take_length]
set_option maxHeartbeats 400000 in
theorem same_any (a b : Option Addr) (c d i j : Nat) (l m : List UInt8) (hi : l.length = i) (hj : m.length = j) (w : World) (B : Nat) (hl : l.length ≤ 140737488351232) (hm : m.length ≤ 140737488351232) (hs : Sl w B a (vbytes l)) (ht : Sl w B b (vbytes m)) :
    Calls Try.prog 18 #[.slice a i c, .slice b j d] w (Quiet (.bool (sameB l m)) w) := by
  subst hi hj
  by_cases hlen : l.length = m.length
  · have hb1 : ((l.length : Int) != (m.length : Int)) = false := by rw [hlen]; simp
    have hle : l.length ≤ m.length := by omega
    have HL := hide hlen
    clear hlen
    go_enter Try.func18, Try.ntmps18
    go_wp2
    go_loopw [5] (fun i wr => ∃ k n : Nat, k ≤ l.length ∧ i = .int .i64 k ∧ l.take k = m.take k ∧ wr = w.drewN n) (fun i _ => l.length - (intOf i).toNat)
    case atStart => exact ⟨0, 0, by omega, rfl, rfl, rfl⟩
    case round =>
      obtain ⟨k, n, hk, rfl, hkk, rfl⟩ := hrel
      have HK := hide hkk
      clear hkk
      by_cases hlt : k < l.length
      · have hlt2 : k < m.length := by omega
        obtain ⟨x, ox, rfl, _, hcx⟩ := hs.byte hlt
        obtain ⟨y, oy, rfl, _, hcy⟩ := ht.byte hlt2
        have hne := byte_ne l[k] m[k]
        have hstep := hide (take_step l m k HK.out hlt hlt2)
        clear hs ht
        by_cases he : l[k] = m[k]
        · rw [beq_iff_eq.2 he] at hne
          have hstep' := hide (hstep.out he)
          clear hstep he
          generalize l[k] = p at hne hcx
          generalize m[k] = q at hne hcy
          go_wp2
          go_quiet (fail)
          go_wp2
          go_roundw
          case rel => exact ⟨k + 1, n + nq, by omega, by go_num, hstep'.out, rfl⟩
          case measure => simp [intOf]; omega
        · rw [beq_eq_false_iff_ne.2 he] at hne
          have hfin := hide (same_no_at l m k hlt hlt2 he)
          clear hstep he
          generalize l[k] = p at hne hcx
          generalize m[k] = q at hne hcy
          go_wp2
          go_quiet (fail)
          go_wp2
          go_ret
          exact ⟨by rw [hfin.out]; rfl, n + nq, World.drewN_drewN w n nq⟩
      · obtain rfl : k = l.length := by omega
        have hfin := hide (same_yes l m HL.out HK.out)
        go_wp2
        go_ret
        exact ⟨by rw [hfin.out]; rfl, n, rfl⟩
  · have hb1 : ((l.length : Int) != (m.length : Int)) = true := by rw [bne_iff_ne]; omega
    have hfin := hide (same_no l m hlen)
    clear hlen
    go_enter Try.func18, Try.ntmps18
    go_wp2
    go_ret
    exact ⟨by rw [hfin.out]; rfl, 0, rfl⟩

/-- bailiffbook.Intact of a list with its room behind it, as Roomy made it: yes. -/
theorem roomy_take (l : List UInt8) (m : UInt8) : (roomy l m).take l.length = l := by unfold roomy; rw [List.take_left']; rfl
theorem roomy_mark (l : List UInt8) (m : UInt8) (i : Nat) (h1 : l.length ≤ i) (h2 : i < (roomy l m).length) : (roomy l m)[i] = m := by
  simp only [roomy]; rw [List.getElem_append_right h1, List.getElem_replicate]
set_option maxHeartbeats 400000 in
theorem intact_any (a b : Option Addr) (c d n k : Nat) (l : List UInt8) (hn : l.length = n) (hk : l.length + 80 = k) (m : UInt8) (w : World) (B : Nat) (hl : l.length ≤ 1000000) (hc : l.length ≤ c) (hs : Sl w B a (vbytes (roomy l m))) (ht : Sl w B b (vbytes l)) :
    Calls Try.prog 26 #[.slice a k c, .slice b n d, .int .u8 m.toNat] w (Quiet (.bool true) w) := by
  subst hn hk
  have hsame : sameB l l = true := (sameB_iff l l).2 rfl
  have hcall := same_any a b c d _ _ l l rfl rfl w B (by omega) (by omega) (by have := hs.take l.length; rwa [vbytes_take, roomy_take] at this) ht
  rw [hsame] at hcall
  have HC := hide hcall
  clear hcall hsame
  go_enter Try.func26, Try.ntmps26
  go_wp2_with fail
  refine HC.out.mono ?_
  rintro e w' ⟨rfl, n, rfl⟩
  clear HC ht
  go_wp2
  go_loop [7] (fun i => ∃ j : Nat, j ≤ 80 ∧ i = .int .i64 ((l.length + j : Nat) : Int)) (fun i => l.length + 80 - (intOf i).toNat)
  case atStart => exact ⟨0, by omega, rfl⟩
  case round =>
    obtain ⟨j, hj, rfl⟩ := hrel
    by_cases h80 : j < 80
    · have hlt : l.length + j < (roomy l m).length := by rw [roomy_length]; omega
      obtain ⟨x, ox, rfl, _, hcell⟩ := hs.byte hlt
      rw [roomy_mark l m (l.length + j) (by omega) hlt] at hcell
      clear hs hlt
      go_wp2
      go_round
      case rel => exact ⟨j + 1, by omega, by go_num⟩
      case measure => simp [intOf]; omega
    · go_wp2
      go_ret
      exact ⟨rfl, n, rfl⟩
end Go.Proofs.Ytinlnfhicnejmaa
