/-
  THE WALK OF bailifflaw2.SumSteps: it returns true; only new memory is laid.
-/
import Derived.Test.YtdfbmlaehdgcdaaSumRunsW
import Derived.Test.YtdfbmlaehdgcdaaChainWalk
import Derived.Test.YtdfbmlaehdgcdaaAppend
namespace Go.Proofs.Ytdfbmlaehdgcdaa
open Go.RowKit
set_option linter.unusedVariables false

theorem infoB : (Try.prog.info? 5).map (fun i => (i.zero, i.size, i.bytes)) = some (some (.int .u8 0), 1, 1) := by kernel_rfl
theorem one_byte (l : List UInt8) : ∀ v ∈ vbytes l, v.oneCell' = true := by
  intro v hv
  simp only [vbytes, List.mem_map] at hv
  obtain ⟨c, _, rfl⟩ := hv
  rfl
theorem n64_nought : (0 : Int) = n64 0#64 := rfl
theorem n64_one : (1 : Int) = n64 1#64 := rfl
set_option maxHeartbeats 800000 in
theorem sumSteps_walk (x0 : BitVec 64) (a1 : Option Addr) (cap1 : Nat) (l1 : List UInt8) (c2 : UInt8) (w : World) (hl1 : l1.length ≤ cap1) (hm1 : cap1 ≤ maxLen) (s1 : Sl w w.heap.size a1 (vbytes l1)) :
    Calls Try.prog 7 #[.int .u64 (n64 x0), .slice a1 l1.length cap1, .int .u8 c2.toNat] w fun e w' => e = .returned (.bool true) ∧ Below w.heap.size w w' := by
  unfold maxLen at hm1
  obtain ⟨i0, hi, hz0, hz1, hz2⟩ := info_parts infoB
  have Hi := hide hi
  have Hz0 := hide hz0
  have Hz1 := hide hz1
  have Hz2 := hide hz2
  clear hi hz0 hz1 hz2
  obtain ⟨n, l, hmn, hl, hln, hn, hn2⟩ := cut_at l1 100 100 rfl
  have hs := s1.takeBytes 100
  rw [← hl] at hs
  have HLN := hide hln
  have hle : l.length ≤ 100 := by omega
  clear hl hln s1
  go_enter Try.func7, Try.ntmps7
  go_wp2_with fail
  refine (chain_any _ _ _ n l HLN.out _ _ (by omega) hs).mono ?_
  rintro e w' ⟨rfl, rfl⟩
  have hown0 : (w.alloc (.cells #[] 5)).ownsRow w.heap.size 5 1 (.slice (some ⟨w.heap.size, 0, none⟩) 0 0) 0 [] := World.ownsRow_made w #[] 0 (Nat.le_refl _) (by simp [maxLen]) rfl
  have hb0 : Below w.heap.size w (w.alloc (.cells #[] 5)) := (Below.refl _ _).alloc (Nat.le_refl _) _
  have hs0 := hs.below hb0
  have HV : Hid ((vbytes l).length = n * 1) := by rw [vbytes_length, HLN.out, Nat.mul_one]; rfl
  go_wp2_with (first
    | (at_builtin; refine wpList_app _ rfl (.tmp 17) (.tmp 18) 24 rfl w.heap.size 5 i0 (.int .u8 0) 1 1 Try.underlying24 Hi.out Hz0.out Hz1.out Hz2.out rfl (by decide) (.slice (some ⟨w.heap.size, 0, none⟩) 0 0) 0 [] rfl hown0 w.heap.size a1 n cap1 (vbytes l) rfl HV.out hs0 (one_byte l) (by unfold maxLen; omega) (by omega) hb0.size ?_; intro v1 w1 hown1 hg1 hat1; have hb1 : Below w.heap.size w w1 := own_below hown0 hb0 hg1 (Nat.le_refl _) hb0.size; rw [Nat.zero_add, List.nil_append] at hown1; have hown2 := hown1.alloc (.cells #[.int .u8 (c2.toNat : Int)] 5); have hc2 : Sl (w1.alloc (.cells #[.int .u8 (c2.toNat : Int)] 5)) (w1.heap.size + 1) (some ⟨w1.heap.size, 0, none⟩) (vbytes [c2]) := Sl.laid w1 _ _ _ _ rfl; have hb2 := hb1.alloc hb1.size (.cells #[.int .u8 (c2.toNat : Int)] 5))
    | (at_builtin; refine wpList_app _ rfl (.tmp 19) (.tmp 21) 24 rfl w.heap.size 5 i0 (.int .u8 0) 1 1 Try.underlying24 Hi.out Hz0.out Hz1.out Hz2.out rfl (by decide) v1 n (vbytes l) rfl hown2 _ _ 1 1 (vbytes [c2]) rfl rfl hc2 (one_byte [c2]) (by unfold maxLen; omega) (by omega) hb2.size ?_; intro v3 w3 hown3 hg3 hat3; have hb3 : Below w.heap.size w w3 := own_below hown2 hb2 hg3 (Nat.le_refl _) hb2.size; rw [← vbytes_append] at hown3; obtain ⟨A3, c3, rfl, hc3, hs3, _⟩ := own_slice hown3))
  refine (chain_any _ _ _ (n + 1) (l ++ [c2]) (by rw [List.length_append, HLN.out]; rfl) _ _ (by rw [List.length_append]; simp; omega) hs3).mono ?_
  rintro e w' ⟨rfl, rfl⟩
  have hcb := n64_byte c2
  have hx := n64_xor (Fnv.chain x0 l) (c2.toBitVec.setWidth 64)
  have h3 : IntKind.u64.wrap (n64 (Fnv.chain x0 l ^^^ c2.toBitVec.setWidth 64) * 1099511628211) = n64 (Fnv.chain x0 (l ++ [c2])) := by
    rw [Fnv.chain_snoc]; exact n64_mul _ Fnv.prime
  have hq1 := n64_lo (c2.toBitVec.setWidth 64)
  have hq2 : n64 (c2.toBitVec.setWidth 64) < 256 := by rw [← hcb]; have := c2.toNat_lt; omega
  generalize Fnv.chain x0 (l ++ [c2]) = y at h3 ⊢
  clear hown0 hb0 hs0 hown1 hg1 hat1 hb1 hown2 hc2 hb2 hown3 hg3 hat3 hs3 hs
  go_wp2_with fail
  have hz := chain_any 0#64 none 0 0 [] rfl w3 0 (by decide) Sl.nil
  rw [← n64_nought] at hz
  refine hz.mono ?_
  rintro e w' ⟨rfl, rfl⟩
  clear hz
  go_wp2_with fail
  have hz := chain_any 1#64 none 0 0 [] rfl w3 0 (by decide) Sl.nil
  rw [← n64_one] at hz
  refine hz.mono ?_
  rintro e w' ⟨rfl, rfl⟩
  clear hz
  have hne : (n64 (Fnv.chain 0#64 []) != n64 (Fnv.chain 1#64 [])) = true := by
    rw [bne_iff_ne]; exact fun e => Fnv.nought_one (n64_inj.1 e)
  generalize n64 (Fnv.chain 0#64 []) = y0 at hne ⊢
  generalize n64 (Fnv.chain 1#64 []) = y1 at hne ⊢
  go_wp2_with fail
  refine (sumRuns_walk _).mono ?_
  rintro e w' ⟨rfl, hb4⟩
  go_wp2
  go_ret
  exact ⟨rfl, hb3.trans (hb4.mono hb3.size)⟩
end Go.Proofs.Ytdfbmlaehdgcdaa
