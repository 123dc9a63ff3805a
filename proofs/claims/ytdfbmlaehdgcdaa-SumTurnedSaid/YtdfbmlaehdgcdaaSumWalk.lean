/-
  THE WALK OF sum.Sum AND OF THE DOCUMENT'S OWN Sum: whatever bytes come in (a slice of at most 2^47 bytes), the answer is the plain sum of SumPlain, and nothing in memory turns.
-/
import Derived.Test.YtdfbmlaehdgcdaaRows
import Derived.Test.YtdfbmlaehdgcdaaBase
import Derived.Test.YtdfbmlaehdgcdaaSumPlain
namespace Go.Proofs.Ytdfbmlaehdgcdaa
open Go.RowKit

theorem run_take (s : BitVec 32) (l : List (BitVec 8)) (k : Nat) (hk : k < l.length) : Crc.run s (l.take (k + 1)) = Crc.upd (Crc.run s (l.take k)) l[k] := by
  rw [List.take_add_one, List.getElem?_eq_getElem hk]; unfold Crc.run; rw [List.foldl_append]; rfl
theorem steps_one (n : Nat) (s : BitVec 32) : Crc.steps (n + 1) s = Crc.step (Crc.steps n s) := by
  rw [Crc.steps_add]; rfl
theorem run_byte (s : BitVec 32) (l : List UInt8) (k : Nat) (hk : k < l.length) :
    Crc.run s ((l.map (·.toBitVec)).take (k + 1)) = Crc.upd (Crc.run s ((l.map (·.toBitVec)).take k)) l[k].toBitVec := by
  rw [run_take _ _ _ (by simpa using hk)]; simp

/-- Where a sum begins, as the program writes it. -/
theorem n32_ones : (4294967295 : Int) = n32 Crc.ones := by decide
set_option maxHeartbeats 400000 in
theorem sum_any (a : Option Addr) (cap n : Nat) (l : List UInt8) (hn : l.length = n) (w : World) (B : Nat) (hl : l.length ≤ 140737488351232) (hs : Sl w B a (vbytes l)) :
    Calls Try.prog 13 #[.slice a n cap] w fun e w' => e = .returned (.int .u32 (n32 (Crc.sum (l.map (·.toBitVec))))) ∧ w = w' := by
  subst hn
  go_enter Try.func13, Try.ntmps13
  go_wp2
  go_loop [3, 9] (fun s i => ∃ k : Nat, k ≤ l.length ∧ i = .int .i64 k ∧ s = .int .u32 (n32 (Crc.run Crc.ones ((l.map (·.toBitVec)).take k)))) (fun _ i => l.length - (intOf i).toNat)
  case atStart => exact ⟨0, Nat.zero_le _, rfl, rfl⟩
  case round =>
    obtain ⟨k, hk, rfl, rfl⟩ := hrel
    by_cases hlt : k < l.length
    · obtain ⟨b, off, rfl, _, hcell⟩ := hs.byte hlt
      have hN := hide (run_byte Crc.ones l k hlt)
      generalize Crc.run Crc.ones ((l.map (·.toBitVec)).take k) = s at hN ⊢
      generalize l[k] = c at hN hcell
      have hc1 := n32_byte c
      have hx := n32_xor
      rw [hc1] at hcell
      have hc2 := n32_lo (c.toBitVec.setWidth 32)
      have hc3 : n32 (c.toBitVec.setWidth 32) < 256 := by rw [← hc1]; have := c.toNat_lt; omega
      clear hs hc1
      go_wp2
      go_loop [3, 17] (fun t i => ∃ j : Nat, j ≤ 8 ∧ i = .int .i64 j ∧ t = .int .u32 (n32 (Crc.steps j (s ^^^ c.toBitVec.setWidth 32)))) (fun _ i => 8 - (intOf i).toNat)
      case atStart => exact ⟨0, by omega, rfl, rfl⟩
      case round =>
        obtain ⟨j, hj, rfl, rfl⟩ := hrel
        by_cases hj8 : j < 8
        · have hJ := hide (steps_one j (s ^^^ c.toBitVec.setWidth 32))
          generalize Crc.steps j (s ^^^ c.toBitVec.setWidth 32) = t at hJ ⊢
          have h3 : bits .xor .u32 (n32 (t >>> 1)) 3988292384 = n32 (t >>> 1 ^^^ Crc.poly) := n32_xor _ Crc.poly
          have h1 := n32_and1 t
          have h4 := n32_lo t
          clear hx hcell hc2 hc3
          cases hb : t.getLsbD 0
          · rw [hb] at h1; simp only [Bool.false_eq_true, if_false] at h1
            go_wp2
            go_round
            case rel => exact ⟨j + 1, by omega, by go_num, by rw [hJ.out, Crc.step, hb, n32_shr1]; rfl⟩
            case measure => simp [intOf]; omega
          · rw [hb] at h1; simp only [if_true] at h1
            go_wp2
            go_round
            case rel => exact ⟨j + 1, by omega, by go_num, by rw [hJ.out, Crc.step, hb, n32_shr1, h3]; rfl⟩
            case measure => simp [intOf]; omega
        · obtain rfl : j = 8 := by omega
          clear hx hcell
          go_wp2
          go_round
          case rel => exact ⟨k + 1, by omega, by go_num, by rw [hN.out]; rfl⟩
          case measure => simp [intOf]; omega
    · have hx := n32_not (Crc.run Crc.ones ((l.map (·.toBitVec)).take k))
      obtain rfl : k = l.length := by omega
      have e : (l.map (·.toBitVec)).take l.length = l.map (·.toBitVec) := List.take_of_length_le (by simp)
      rw [e] at hx ⊢
      go_wp2
      go_ret
      exact ⟨rfl, rfl⟩

-- The document's own sum, likewise.
set_option maxHeartbeats 400000 in
theorem refsum_any (a : Option Addr) (cap n : Nat) (l : List UInt8) (hn : l.length = n) (w : World) (B : Nat) (hl : l.length ≤ 140737488351232) (hs : Sl w B a (vbytes l)) :
    Calls Try.prog 16 #[.slice a n cap] w fun e w' => e = .returned (.int .u32 (n32 (Crc.sum (l.map (·.toBitVec))))) ∧ w = w' := by
  subst hn
  go_enter Try.func16, Try.ntmps16
  go_wp2
  go_loop [3, 9] (fun s i => ∃ k : Nat, k ≤ l.length ∧ i = .int .i64 k ∧ s = .int .u32 (n32 (Crc.run Crc.ones ((l.map (·.toBitVec)).take k)))) (fun _ i => l.length - (intOf i).toNat)
  case atStart => exact ⟨0, Nat.zero_le _, rfl, rfl⟩
  case round =>
    obtain ⟨k, hk, rfl, rfl⟩ := hrel
    by_cases hlt : k < l.length
    · obtain ⟨b, off, rfl, _, hcell⟩ := hs.byte hlt
      have hN := hide (run_byte Crc.ones l k hlt)
      generalize Crc.run Crc.ones ((l.map (·.toBitVec)).take k) = s at hN ⊢
      generalize l[k] = c at hN hcell
      have hc1 := n32_byte c
      have hx := n32_xor
      rw [hc1] at hcell
      have hc2 := n32_lo (c.toBitVec.setWidth 32)
      have hc3 : n32 (c.toBitVec.setWidth 32) < 256 := by rw [← hc1]; have := c.toNat_lt; omega
      clear hs hc1
      go_wp2
      go_loop [3, 6] (fun t i => ∃ j : Nat, j ≤ 8 ∧ i = .int .i64 j ∧ t = .int .u32 (n32 (Crc.steps j (s ^^^ c.toBitVec.setWidth 32)))) (fun _ i => 8 - (intOf i).toNat)
      case atStart => exact ⟨0, by omega, rfl, rfl⟩
      case round =>
        obtain ⟨j, hj, rfl, rfl⟩ := hrel
        by_cases hj8 : j < 8
        · have hJ := hide (steps_one j (s ^^^ c.toBitVec.setWidth 32))
          generalize Crc.steps j (s ^^^ c.toBitVec.setWidth 32) = t at hJ ⊢
          have h3 : bits .xor .u32 (n32 (t >>> 1)) 3988292384 = n32 (t >>> 1 ^^^ Crc.poly) := n32_xor _ Crc.poly
          have h1 := n32_and1 t
          have h4 := n32_lo t
          clear hx hcell hc2 hc3
          cases hb : t.getLsbD 0
          · rw [hb] at h1; simp only [Bool.false_eq_true, if_false] at h1
            go_wp2
            go_round
            case rel => exact ⟨j + 1, by omega, by go_num, by rw [hJ.out, Crc.step, hb, n32_shr1]; rfl⟩
            case measure => simp [intOf]; omega
          · rw [hb] at h1; simp only [if_true] at h1
            go_wp2
            go_round
            case rel => exact ⟨j + 1, by omega, by go_num, by rw [hJ.out, Crc.step, hb, n32_shr1, h3]; rfl⟩
            case measure => simp [intOf]; omega
        · obtain rfl : j = 8 := by omega
          clear hx hcell
          go_wp2
          go_round
          case rel => exact ⟨k + 1, by omega, by go_num, by rw [hN.out]; rfl⟩
          case measure => simp [intOf]; omega
    · have hx := n32_not (Crc.run Crc.ones ((l.map (·.toBitVec)).take k))
      obtain rfl : k = l.length := by omega
      have e : (l.map (·.toBitVec)).take l.length = l.map (·.toBitVec) := List.take_of_length_le (by simp)
      rw [e] at hx ⊢
      go_wp2
      go_ret
      exact ⟨rfl, rfl⟩
end Go.Proofs.Ytdfbmlaehdgcdaa
