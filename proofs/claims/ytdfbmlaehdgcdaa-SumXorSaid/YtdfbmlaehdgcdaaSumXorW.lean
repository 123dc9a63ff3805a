/-
  THE WALK OF bailifflaw2.SumXor: it returns true; only new memory is laid.
-/
import Derived.Test.YtdfbmlaehdgcdaaSumRunsW
import Derived.Test.YtdfbmlaehdgcdaaBook
import Derived.StillTailTactics
namespace Go.Proofs.Ytdfbmlaehdgcdaa
open Go.RowKit
set_option linter.unusedVariables false

/-- Three rows of bytes, byte by byte exclusive. -/
def xor3 (a b c : List UInt8) : List UInt8 := List.zipWith (· ^^^ ·) (List.zipWith (· ^^^ ·) a b) c
/-- .. as it is made: j bytes are laid. -/
def xorRow (a b c : List UInt8) (n j : Nat) : List Value := vbytes ((xor3 a b c).take j) ++ List.replicate (n - j) (.int .u8 0)
theorem xor3_length (a b c : List UInt8) (n : Nat) (ha : a.length = n) (hb : b.length = n) (hc : c.length = n) : (xor3 a b c).length = n := by simp [xor3]; omega
theorem xor3_sum (a b c : List UInt8) (n : Nat) (ha : a.length = n) (hb : b.length = n) (hc : c.length = n) :
    Crc.sum ((xor3 a b c).map (·.toBitVec)) = Crc.sum (a.map (·.toBitVec)) ^^^ Crc.sum (b.map (·.toBitVec)) ^^^ Crc.sum (c.map (·.toBitVec)) := by
  rw [← Crc.sum_xor3 _ _ _ (by simp; omega) (by simp; omega)]
  congr 1
  have zx : ∀ l m : List UInt8, (List.zipWith (· ^^^ ·) l m).map (·.toBitVec) = List.zipWith (· ^^^ ·) (l.map (·.toBitVec)) (m.map (·.toBitVec)) := by
    intro l
    induction l with
    | nil => intro m; rfl
    | cons x l ih => intro m; cases m with
      | nil => rfl
      | cons y m => simp only [List.zipWith_cons_cons, List.map_cons, ih]; rfl
  unfold xor3
  rw [zx, zx]
theorem xorRow_length (a b c : List UInt8) (n j : Nat) (ha : a.length = n) (hb : b.length = n) (hc : c.length = n) (hj : j ≤ n) : (xorRow a b c n j).length = n := by
  have := xor3_length a b c n ha hb hc
  simp [xorRow, vbytes]; omega
theorem xorRow_step (a b c : List UInt8) (n j : Nat) (ha : a.length = n) (hb : b.length = n) (hc : c.length = n) (hj : j < n) :
    (xorRow a b c n j).set j (.int .u8 ((a[j] ^^^ b[j] ^^^ c[j]).toNat : Int)) = xorRow a b c n (j + 1) := by
  have hl := xor3_length a b c n ha hb hc
  unfold xorRow
  have hlen : (vbytes ((xor3 a b c).take j)).length = j := by simp [vbytes]; omega
  rw [List.set_append, if_neg (by omega), hlen, Nat.sub_self, show n - j = (n - (j + 1)) + 1 by omega, List.replicate_succ, List.set_cons_zero,
    List.take_add_one, List.getElem?_eq_getElem (by omega : j < (xor3 a b c).length), vbytes_append, List.append_assoc]
  simp [xor3, vbytes]
theorem xorRow_done (a b c : List UInt8) (n : Nat) (ha : a.length = n) (hb : b.length = n) (hc : c.length = n) : xorRow a b c n n = vbytes (xor3 a b c) := by
  unfold xorRow
  rw [Nat.sub_self, List.take_of_length_le (by rw [xor3_length a b c n ha hb hc]; omega), show (List.replicate 0 (Value.int .u8 0)) = [] from rfl, List.append_nil]
theorem byte_xor (a b : UInt8) : bits .xor .u8 (a.toNat : Int) (b.toNat : Int) = ((a ^^^ b).toNat : Int) := by
  rw [u8_xor_nat _ _ a.toNat_lt b.toNat_lt, UInt8.toNat_xor]

/-- A store into a block that was just laid, behind draws. -/
theorem set_drawn (w : World) (R : List Value) (t : TypeId) (k j : Nat) (v : Value) :
    ((w.alloc (.cells R.toArray t)).drewN k).setCell ⟨w.heap.size, j, none⟩ v = (w.alloc (.cells (R.set j v).toArray t)).drewN k := by
  show ((w.alloc (.cells R.toArray t)).setCell ⟨w.heap.size, j, none⟩ v).drewN k = _
  rw [World.setCell_alloc_new, List.setIfInBounds_toArray]
/-- The least of three lengths and a bound, under a name. -/
theorem cut3_at (x y z m : Nat) (M : Int) (hM : M = (m : Int)) : ∃ n : Nat, (∀ (P : Program) (ts : Array TypeId) (t : TypeId) (w : World), (Builtin.min_ ts t #[.int .i64 (x : Int), .int .i64 (y : Int), .int .i64 (z : Int), .int .i64 M]).run P w = .ok (.int .i64 (n : Int)) w) ∧
    n ≤ x ∧ n ≤ y ∧ n ≤ z ∧ n ≤ m := by
  subst hM
  refine ⟨min (min (min x y) z) m, ?_, by omega, by omega, by omega, by omega⟩
  intro P ts t w
  simp [Builtin.min_, Builtin.min2]
  split <;> split <;> split <;> omega

theorem infoX : (Try.prog.info? 5).map (fun i => (i.zero, i.size, i.bytes)) = some (some (.int .u8 0), 1, 1) := by kernel_rfl
theorem take_len {α : Type} (l : List α) (n : Nat) (h : n ≤ l.length) : (l.take n).length = n := by rw [List.length_take]; omega
set_option maxHeartbeats 1000000 in
theorem sumXor_walk (a0 : Option Addr) (cap0 : Nat) (l0 : List UInt8) (a1 : Option Addr) (cap1 : Nat) (l1 : List UInt8) (a2 : Option Addr) (cap2 : Nat) (l2 : List UInt8) (w : World) (hl0 : l0.length ≤ cap0) (hm0 : cap0 ≤ maxLen) (s0 : Sl w w.heap.size a0 (vbytes l0)) (hl1 : l1.length ≤ cap1) (hm1 : cap1 ≤ maxLen) (s1 : Sl w w.heap.size a1 (vbytes l1)) (hl2 : l2.length ≤ cap2) (hm2 : cap2 ≤ maxLen) (s2 : Sl w w.heap.size a2 (vbytes l2)) :
    Calls Try.prog 5 #[.slice a0 l0.length cap0, .slice a1 l1.length cap1, .slice a2 l2.length cap2] w fun e w' => e = .returned (.bool true) ∧ Below w.heap.size w w' := by
  unfold maxLen at hm0 hm1 hm2
  obtain ⟨n, hmin, hn0, hn1, hn2, hn⟩ := cut3_at l0.length l1.length l2.length 100 100 rfl
  have hmin := hmin Try.prog
  have t0 := s0.takeBytes n
  have t1 := s1.takeBytes n
  have t2 := s2.takeBytes n
  have e0 := hide (take_len l0 n hn0)
  have e1 := hide (take_len l1 n hn1)
  have e2 := hide (take_len l2 n hn2)
  generalize l0.take n = k0 at t0 e0
  generalize l1.take n = k1 at t1 e1
  generalize l2.take n = k2 at t2 e2
  clear s0 s1 s2
  have hmk := fun w => run_make_row' (P := Try.prog) 24 5 (.int .u8 0) 1 Try.underlying24 infoX rfl .i64 .i64 n (by omega) (by omega) w
  have hz : xorRow k0 k1 k2 n 0 = List.replicate n (.int .u8 0) := by simp [xorRow, vbytes]
  rw [madeCells_list, ← hz] at hmk
  clear hz
  go_enter Try.func5, Try.ntmps5
  go_wp2
  go_loopw [9, 21] (fun u i wr => ∃ j d : Nat, j ≤ n ∧ i = .int .i64 j ∧ wr = (w.alloc (.cells (xorRow k0 k1 k2 n j).toArray 5)).drewN d) (fun _ i _ => n - (intOf i).toNat)
  case atStart => exact ⟨0, 0, Nat.zero_le _, rfl, rfl⟩
  case round =>
    obtain ⟨j, d, hj, rfl, rfl⟩ := hrel
    clear hmk hmin
    by_cases hlt : j < n
    · have q0 : k0.length = n := e0.out
      have q1 : k1.length = n := e1.out
      have q2 : k2.length = n := e2.out
      obtain ⟨b0, o0, rfl, hb0, c0⟩ := t0.byte (i := j) (by omega)
      obtain ⟨b1, o1, rfl, hb1, c1⟩ := t1.byte (i := j) (by omega)
      obtain ⟨b2, o2, rfl, hb2, c2⟩ := t2.byte (i := j) (by omega)
      have hlen := xorRow_length k0 k1 k2 n j q0 q1 q2 hj
      have hstep := hide (xorRow_step k0 k1 k2 n j q0 q1 q2 hlt)
      generalize xorRow k0 k1 k2 n j = R at hstep hlen ⊢
      generalize k0[j] = y0 at hstep c0
      generalize k1[j] = y1 at hstep c1
      generalize k2[j] = y2 at hstep c2
      have f0 := (World.cell?_alloc_lt w (.cells R.toArray 5) ⟨b0, o0 + j, none⟩ hb0).trans c0
      have f1 := (World.cell?_alloc_lt w (.cells R.toArray 5) ⟨b1, o1 + j, none⟩ hb1).trans c1
      have f2 := (World.cell?_alloc_lt w (.cells R.toArray 5) ⟨b2, o2 + j, none⟩ hb2).trans c2
      have hcell : (w.alloc (.cells R.toArray 5)).cell? ⟨w.heap.size, j, none⟩ = some (R.getD j undef) := by
        rw [World.cell?_alloc_mark]
        simp [List.getD_eq_getElem?_getD, List.getElem?_eq_getElem (show j < R.length by omega)]
      have x1 := byte_xor y0 y1
      have x2 := byte_xor (y0 ^^^ y1) y2
      generalize y0 ^^^ y1 = z01 at x1 x2 hstep
      generalize z01 ^^^ y2 = z at x2 hstep
      clear hlen q0 q1 q2 t0 t1 t2 e0 e1 e2 c0 c1 c2
      go_wp2
      go_region
      all_goals (go_wp2; go_roundw)
      case rel => exact ⟨j + 1, _, by omega, by go_num, by rw [← hstep.out, set_drawn]⟩
      case measure => simp [intOf]; omega
    · obtain rfl : j = n := by omega
      have hsum := xor3_sum k0 k1 k2 j e0.out e1.out e2.out
      have hx3 := hide (xor3_length k0 k1 k2 j e0.out e1.out e2.out)
      rw [xorRow_done k0 k1 k2 j e0.out e1.out e2.out]
      generalize xor3 k0 k1 k2 = x at hsum hx3 ⊢
      have hb : Below w.heap.size w ((w.alloc (.cells (vbytes x).toArray 5)).drewN d) := below_drewN ((Below.refl _ _).alloc (Nat.le_refl _) _) d
      have r0 := t0.below hb
      have r1 := t1.below hb
      have r2 := t2.below hb
      have rx : Sl ((w.alloc (.cells (vbytes x).toArray 5)).drewN d) (w.heap.size + 1) (some ⟨w.heap.size, 0, none⟩) (vbytes x) := Sl.laid w (vbytes x).toArray 5 (0, 0) (vbytes x) rfl
      generalize (w.alloc (.cells (vbytes x).toArray 5)).drewN d = w1 at hb r0 r1 r2 rx ⊢
      go_wp2
      have g0 : j ≤ cap0 := by omega
      have g1 : j ≤ cap1 := by omega
      have g2 : j ≤ cap2 := by omega
      go_still_tail 18, (by kernel_rfl)
      still_call (still_of (sum_any _ _ j x hx3.out _ _ (by rw [hx3.out]; omega) rx))
      repeat still_step
      still_call (still_of (sum_any _ _ j k0 e0.out _ _ (by rw [e0.out]; omega) r0))
      repeat still_step
      still_call (still_of (sum_any _ _ j k1 e1.out _ _ (by rw [e1.out]; omega) r1))
      have hx := n32_xor
      repeat still_step
      still_call (still_of (sum_any _ _ j k2 e2.out _ _ (by rw [e2.out]; omega) r2))
      repeat still_step
      refine wpStill_nil ?_
      change wpList _ _ _ _ _ w1.drew
      have hb3 := hb.drew
      generalize w1.drew = w2 at hb3 ⊢
      go_wp2_with fail
      refine (sumRuns_walk _).mono ?_
      rintro e w' ⟨rfl, hb4⟩
      go_wp2
      go_ret
      exact ⟨rfl, hb3.trans (hb4.mono hb3.size)⟩
end Go.Proofs.Ytdfbmlaehdgcdaa
