/-
  CONTRACTS OF slices.Clone AT BYTES, pack.Num AND bailiffref1.Num.
-/
import Derived.Test.YtjaofdalmjiliaaRows
import Derived.Test.YtjaofdalmjiliaaPkP
import Derived.Test.YtjaofdalmjiliaaAppend
import Derived.Deep.LoopGhost
namespace Go.Proofs.Ytjaofdalmjiliaa
open Go.RowKit
set_option linter.unusedVariables false

theorem infoB : (Try.prog.info? 5).map (fun i => (i.zero, i.size, i.bytes)) = some (some (.int .u8 0), 1, 1) := by kernel_rfl
theorem one_vb (l : List UInt8) : ∀ v ∈ vbytes l, v.oneCell' = true := by
  intro v hv
  simp only [vbytes, List.mem_map] at hv
  obtain ⟨c, _, rfl⟩ := hv
  rfl
/-- New bytes, owned; what was there as it was. -/
def BytesPost (w : World) (l : List UInt8) (e : Ending) (w' : World) : Prop :=
  ∃ v, e = .returned v ∧ w'.ownsRow w.heap.size 5 1 v l.length (vbytes l) ∧ Below w.heap.size w w'
/-- Bytes behind those that are owned. -/
def OwnPost (B : Nat) (w : World) (l : List UInt8) (e : Ending) (w' : World) : Prop :=
  ∃ v, e = .returned v ∧ w'.ownsRow B 5 1 v l.length (vbytes l) ∧ Below B w w'
theorem nil_of {w : World} {B : Nat} {l : List UInt8} (h : Sl w B none (vbytes l)) : l = [] := by
  cases l with
  | nil => rfl
  | cons x l =>
    obtain ⟨b, off, e, _⟩ := h (by simp [vbytes])
    cases e
theorem clone_any (a : Option Addr) (c n : Nat) (l : List UInt8) (hn : l.length = n) (w : World) (hl : l.length ≤ 140737488351232) (hs : Sl w w.heap.size a (vbytes l)) :
    Calls Try.prog 48 #[.slice a n c] w (BytesPost w l) := by
  subst hn
  obtain ⟨i0, hi, hz0, hz1, hz2⟩ := info_parts infoB
  have Hi := hide hi
  have Hz0 := hide hz0
  have Hz1 := hide hz1
  have Hz2 := hide hz2
  clear hi hz0 hz1 hz2
  rcases a with _ | ad
  · have hnil := nil_of hs
    have heq := Lib.run_eql_slice_nil (P := Try.prog) w 29 5 none l.length c 0 0 Try.underlying29
    have HN := hide hnil
    clear hs hnil
    go_enter Try.func48, Try.ntmps48
    go_wp2
    go_ret
    exact ⟨_, rfl, by rw [HN.out]; exact World.ownsRow_nil _ _ _ _, Below.refl _ _⟩
  · have heq := Lib.run_eql_slice_nil (P := Try.prog) w 29 5 (some ad) l.length c 0 0 Try.underlying29
    have hown0 : (w.alloc (.cells #[] 5)).ownsRow w.heap.size 5 1 (.slice (some ⟨w.heap.size, 0, none⟩) 0 0) 0 [] := World.ownsRow_made w #[] 0 (Nat.le_refl _) (by simp [maxLen]) rfl
    have hb0 : Below w.heap.size w (w.alloc (.cells #[] 5)) := (Below.refl _ _).alloc (Nat.le_refl _) _
    have HV : Hid ((vbytes l).length = l.length * 1) := hide (by rw [vbytes_length, Nat.mul_one])
    have HS := hide (hs.below hb0)
    have HO := hide (one_vb l)
    have H0 := hide hown0
    have HB := hide hb0
    clear hs hown0 hb0
    go_enter Try.func48, Try.ntmps48
    go_wp2_with (at_builtin; refine wpList_app _ rfl (.tmp 5) (.tmp 6) 29 rfl w.heap.size 5 i0 (.int .u8 0) 1 1 Try.underlying29 Hi.out Hz0.out Hz1.out Hz2.out rfl (by decide) (.slice (some ⟨w.heap.size, 0, none⟩) 0 0) 0 [] rfl H0.out w.heap.size (some ad) l.length c (vbytes l) rfl HV.out HS.out HO.out (by unfold maxLen; omega) (by omega) (by simp) ?_; intro v1 w1 hown1 hg1 hat1; have hb1 : Below w.heap.size w w1 := own_below H0.out HB.out hg1 (Nat.le_refl _) (by simp); rw [Nat.zero_add, List.nil_append] at hown1)
    go_ret
    exact ⟨_, rfl, hown1, hb1⟩

theorem u64_and127 (u : Nat) (h : u < 18446744073709551616) : bits .and .u64 (u : Int) 127 = ((u % 128 : Nat) : Int) := by
  rw [show (127 : Int) = ((127 : Nat) : Int) from rfl, u64_and_nat _ _ h (by decide)]
  rw [show (127 : Nat) = 2 ^ 7 - 1 from rfl, Nat.and_two_pow_sub_one_eq_mod]
theorem or128 (x : Nat) (h : x < 128) : x ||| 128 = x + 128 := by
  rw [Nat.or_comm, show (128 : Nat) = 2 ^ 7 * 1 from rfl, ← Nat.two_pow_add_eq_or_of_lt (i := 7) h 1]; omega
theorem u64_or128 (x : Nat) (h : x < 128) : bits .or .u64 (x : Int) 128 = ((x + 128 : Nat) : Int) := by
  rw [show (128 : Int) = ((128 : Nat) : Int) from rfl, u64_or_nat _ _ (by omega) (by decide), or128 x h]
theorem u8_or128 (x : Nat) (h : x < 256) : bits .or .u8 (x : Int) 128 = ((x % 128 + 128 : Nat) : Int) := by
  rw [show (128 : Int) = ((128 : Nat) : Int) from rfl, u8_or_nat _ _ (by omega) (by decide)]
  congr 1
  by_cases hx : x < 128
  · rw [or128 x hx]; omega
  · have h2 : x = 128 + (x - 128) := by omega
    rw [h2, show 128 + (x - 128) = 2 ^ 7 * 1 + (x - 128) by omega, Nat.two_pow_add_eq_or_of_lt (i := 7) (by omega) 1, Nat.or_assoc, Nat.or_comm (x - 128) 128, ← Nat.or_assoc]
    rw [show (2 ^ 7 * 1 ||| 128 : Nat) = 128 from rfl, Nat.or_comm, or128 _ (by omega)]
    omega
theorem zz_neg (k : Int) (h1 : -9223372036854775808 ≤ k) (h2 : k < 0) : bits .xor .u64 IntKind.u64.max (IntKind.u64.wrap (IntKind.u64.wrap k * 2)) = (zz k : Int) := by
  have e1 : IntKind.u64.wrap (IntKind.u64.wrap k * 2) = ((2 * k + 18446744073709551616).toNat : Int) := by
    rw [IntKind.wrap_u64, IntKind.wrap_u64]; omega
  rw [e1, show IntKind.u64.max = ((18446744073709551615 : Nat) : Int) from rfl, u64_xor_nat _ _ (by decide) (by omega)]
  have hu : (2 * k + 18446744073709551616).toNat < 2 ^ 64 := by omega
  have h3 : (18446744073709551615 : Nat) ^^^ (2 * k + 18446744073709551616).toNat = 2 ^ 64 - 1 - (2 * k + 18446744073709551616).toNat := by
    have hb := congrArg BitVec.toNat (BitVec.xor_allOnes (x := BitVec.ofNat 64 (2 * k + 18446744073709551616).toNat))
    rw [BitVec.toNat_xor, BitVec.toNat_not, BitVec.toNat_ofNat, Nat.mod_eq_of_lt hu] at hb
    rw [Nat.xor_comm]
    exact hb
  rw [h3]
  unfold zz
  rw [if_neg (by omega)]
  omega
theorem zz_pos (k : Int) (h : 0 ≤ k) : k * 2 = (zz k : Int) := by unfold zz; rw [if_pos h]; omega
end Go.Proofs.Ytjaofdalmjiliaa
