/-
  THE WALKS OF sum.Chain AND OF THE DOCUMENT'S OWN Chain: whatever number and bytes come in, the answer is the plain chain of ChainPlain, and nothing in memory turns.
-/
import Derived.Test.YtdfbmlaehdgcdaaRows
import Derived.Test.YtdfbmlaehdgcdaaBase
import Derived.Test.YtdfbmlaehdgcdaaChainPlain
namespace Go.Proofs.Ytdfbmlaehdgcdaa
open Go.RowKit

theorem n64_basis : (14695981039346656037 : Int) = n64 Fnv.basis := by decide
theorem n64_shift8 (p : BitVec 64) (j : Nat) : n64 (p >>> (8 * j)) / (256 : Int) = n64 (p >>> (8 * (j + 1))) := by
  rw [show (256 : Int) = 2 ^ 8 from rfl, n64_shr, Fnv.shift_shift]

set_option maxHeartbeats 400000 in
theorem chain_any (p : BitVec 64) (a : Option Addr) (cap n : Nat) (l : List UInt8) (hn : l.length = n) (w : World) (B : Nat) (hl : l.length ≤ 140737488351232) (hs : Sl w B a (vbytes l)) :
    Calls Try.prog 17 #[.int .u64 (n64 p), .slice a n cap] w fun e w' => e = .returned (.int .u64 (n64 (Fnv.chain p l))) ∧ w = w' := by
  subst hn
  go_enter Try.func17, Try.ntmps17
  go_wp2
  go_loop [0, 5, 8] (fun q h i => ∃ j : Nat, j ≤ 8 ∧ i = .int .i64 j ∧ q = .int .u64 (n64 (p >>> (8 * j))) ∧ h = .int .u64 (n64 (Fnv.heads p j))) (fun _ _ i => 8 - (intOf i).toNat)
  case atStart => exact ⟨0, by omega, rfl, by simp, by rw [n64_basis]; rfl⟩
  case round =>
    obtain ⟨j, hj, rfl, rfl, rfl⟩ := hrel
    by_cases hj8 : j < 8
    · have h1 : bits .and .u64 (n64 (p >>> (8 * j))) 255 = n64 (p >>> (8 * j) &&& Fnv.low) := n64_and _ Fnv.low
      have h2 := n64_xor (Fnv.heads p j) (p >>> (8 * j) &&& Fnv.low)
      have h3 : IntKind.u64.wrap (n64 (Fnv.heads p j ^^^ (p >>> (8 * j) &&& Fnv.low)) * 1099511628211) = n64 (Fnv.heads p (j + 1)) := n64_mul _ Fnv.prime
      have h4 := n64_lo (p >>> (8 * j))
      go_wp2
      go_round
      case rel => exact ⟨j + 1, by omega, by go_num, by rw [n64_shift8], rfl⟩
      case measure => simp [intOf]; omega
    · obtain rfl : j = 8 := by omega
      generalize hh : Fnv.heads p 8 = h
      go_wp2
      go_loop [5, 20] (fun t i => ∃ k : Nat, k ≤ l.length ∧ i = .int .i64 k ∧ t = .int .u64 (n64 (Fnv.run h (l.take k)))) (fun _ i => l.length - (intOf i).toNat)
      case atStart => exact ⟨0, Nat.zero_le _, rfl, rfl⟩
      case round =>
        obtain ⟨k, hk, rfl, rfl⟩ := hrel
        by_cases hlt : k < l.length
        · obtain ⟨b, off, rfl, _, hcell⟩ := hs.byte hlt
          have hN := hide (Fnv.run_take h l k hlt)
          generalize Fnv.run h (l.take k) = s at hN ⊢
          generalize l[k] = c at hN hcell
          have hc1 := n64_byte c
          have hx := n64_xor
          rw [hc1] at hcell
          have hc2 := n64_lo (c.toBitVec.setWidth 64)
          have hc3 : n64 (c.toBitVec.setWidth 64) < 256 := by rw [← hc1]; have := c.toNat_lt; omega
          have h3 : IntKind.u64.wrap (n64 (s ^^^ c.toBitVec.setWidth 64) * 1099511628211) = n64 (Fnv.step s (c.toBitVec.setWidth 64)) := n64_mul _ Fnv.prime
          clear hs hc1
          go_wp2
          go_round
          case rel => exact ⟨k + 1, by omega, by go_num, by rw [hN.out]⟩
          case measure => simp [intOf]; omega
        · obtain rfl : k = l.length := by omega
          rw [List.take_length]
          go_wp2
          go_ret
          exact ⟨by rw [← hh]; rfl, rfl⟩

/-- The number ahead, shifted by eight times the round. -/
theorem n64_shifts (p : BitVec 64) (j : Nat) : n64 p / (2 : Int) ^ (8 * j) = n64 (p >>> (8 * j)) := n64_shr p _

set_option maxHeartbeats 400000 in
theorem refchain_any (p : BitVec 64) (a : Option Addr) (cap n : Nat) (l : List UInt8) (hn : l.length = n) (w : World) (B : Nat) (hl : l.length ≤ 140737488351232) (hs : Sl w B a (vbytes l)) :
    Calls Try.prog 18 #[.int .u64 (n64 p), .slice a n cap] w fun e w' => e = .returned (.int .u64 (n64 (Fnv.chain p l))) ∧ w = w' := by
  subst hn
  go_enter Try.func18, Try.ntmps18
  go_wp2
  go_loop [5, 6] (fun h i => ∃ j : Nat, j ≤ 8 ∧ i = .int .i64 j ∧ h = .int .u64 (n64 (Fnv.heads p j))) (fun _ i => 8 - (intOf i).toNat)
  case atStart => exact ⟨0, by omega, rfl, by rw [n64_basis]; rfl⟩
  case round =>
    obtain ⟨j, hj, rfl, rfl⟩ := hrel
    by_cases hj8 : j < 8
    · have h1 : bits .and .u64 (n64 (p >>> (8 * j))) 255 = n64 (p >>> (8 * j) &&& Fnv.low) := n64_and _ Fnv.low
      have h2 := n64_xor (Fnv.heads p j) (p >>> (8 * j) &&& Fnv.low)
      have h3 : IntKind.u64.wrap (n64 (Fnv.heads p j ^^^ (p >>> (8 * j) &&& Fnv.low)) * 1099511628211) = n64 (Fnv.heads p (j + 1)) := n64_mul _ Fnv.prime
      have h4 := n64_lo (p >>> (8 * j))
      have h5 := n64_shifts p j
      go_wp2
      go_round
      case rel => exact ⟨j + 1, by omega, by go_num, rfl⟩
      case measure => simp [intOf]; omega
    · obtain rfl : j = 8 := by omega
      generalize hh : Fnv.heads p 8 = h
      go_wp2
      go_loop [5, 23] (fun t i => ∃ k : Nat, k ≤ l.length ∧ i = .int .i64 k ∧ t = .int .u64 (n64 (Fnv.run h (l.take k)))) (fun _ i => l.length - (intOf i).toNat)
      case atStart => exact ⟨0, Nat.zero_le _, rfl, rfl⟩
      case round =>
        obtain ⟨k, hk, rfl, rfl⟩ := hrel
        by_cases hlt : k < l.length
        · obtain ⟨b, off, rfl, _, hcell⟩ := hs.byte hlt
          have hN := hide (Fnv.run_take h l k hlt)
          generalize Fnv.run h (l.take k) = s at hN ⊢
          generalize l[k] = c at hN hcell
          have hc1 := n64_byte c
          have hx := n64_xor
          rw [hc1] at hcell
          have hc2 := n64_lo (c.toBitVec.setWidth 64)
          have hc3 : n64 (c.toBitVec.setWidth 64) < 256 := by rw [← hc1]; have := c.toNat_lt; omega
          have h3 : IntKind.u64.wrap (n64 (s ^^^ c.toBitVec.setWidth 64) * 1099511628211) = n64 (Fnv.step s (c.toBitVec.setWidth 64)) := n64_mul _ Fnv.prime
          clear hs hc1
          go_wp2
          go_round
          case rel => exact ⟨k + 1, by omega, by go_num, by rw [hN.out]⟩
          case measure => simp [intOf]; omega
        · obtain rfl : k = l.length := by omega
          rw [List.take_length]
          go_wp2
          go_ret
          exact ⟨by rw [← hh]; rfl, rfl⟩
end Go.Proofs.Ytdfbmlaehdgcdaa
