/-
  WORDS SHARED BY THIS SEAT'S WALKS: slices of one-cell elements as lists, words of 32 and 64 bits as bit vectors behind a name that the walk does not open. No condition.
-/
import Derived.WalkKit
import Derived.WalkSpells
import Derived.WalkLawsBesides
import Derived.Handy
import Derived.Laws.OwnMore
import Derived.Laws.BitsAllLaws
import Derived.Deep.Draws
namespace Go.Proofs.Ytjaofdalmjiliaa
open Go.RowKit

theorem hide {p : Prop} (h : p) : Hid p := h

/-- A contract that leaves the world as it is, turned round for the still walk. -/
theorem still_of {P : Program} {f : FuncId} {args : Array Value} {w : World} {v : Value} (h : Calls P f args w fun e w' => e = .returned v ∧ w = w') : Calls P f args w fun e w'' => e = .returned v ∧ w'' = w :=
  h.mono fun _ _ hh => ⟨hh.1, hh.2.symm⟩

/-- A slice's elements, one cell each, where the walk looks for them; the slice lies below block B. -/
def Sl (w : World) (B : Nat) (a : Option Addr) (xs : List Value) : Prop :=
  xs ≠ [] → ∃ b off, a = some ⟨b, off, none⟩ ∧ b < B ∧ ∀ i x, xs[i]? = some x → w.cell? ⟨b, off + i, none⟩ = some x

theorem Sl.nil {w : World} {B : Nat} {a : Option Addr} : Sl w B a [] := fun h => absurd rfl h
theorem Sl.keep {w w' : World} {B : Nat} {a : Option Addr} {xs : List Value} (h : Sl w B a xs) (hk : ∀ p : Addr, p.block < B → w'.cell? p = w.cell? p) : Sl w' B a xs := fun hn => by
  obtain ⟨b, off, e, hb, hc⟩ := h hn
  exact ⟨b, off, e, hb, fun i x hx => (hk _ hb).trans (hc i x hx)⟩
theorem Sl.more {w : World} {B B' : Nat} {a : Option Addr} {xs : List Value} (h : Sl w B a xs) (hB : B ≤ B') : Sl w B' a xs := fun hn => by
  obtain ⟨b, off, e, hb, hc⟩ := h hn
  exact ⟨b, off, e, by omega, hc⟩
theorem Sl.below {w w' : World} {B : Nat} {a : Option Addr} {xs : List Value} (h : Sl w B a xs) (hb : Below B w w') : Sl w' B a xs := h.keep fun _ hp => hb.cell hp
theorem Sl.at {w : World} {B : Nat} {a : Option Addr} {xs : List Value} {i : Nat} {x : Value} (h : Sl w B a xs) (hx : xs[i]? = some x) :
    ∃ b off, a = some ⟨b, off, none⟩ ∧ b < B ∧ w.cell? ⟨b, off + i, none⟩ = some x := by
  obtain ⟨b, off, e, hb, hc⟩ := h (by rintro rfl; simp at hx)
  exact ⟨b, off, e, hb, hc i x hx⟩
/-- A row of cells that was just laid, whatever its mark, read as a slice. -/
theorem Sl.laid (w : World) (cs : Array Value) (t : TypeId) (m : Nat × Nat) (xs : List Value) (h : cs.toList = xs) :
    Sl (w.alloc (.cells cs t m)) (w.heap.size + 1) (some ⟨w.heap.size, 0, none⟩) xs := fun _ =>
  ⟨w.heap.size, 0, rfl, by omega, fun i x hx => by
    subst h
    rw [World.cell?_alloc_mark, Nat.zero_add]
    simpa using hx⟩

/-- Bytes as cells. -/
def vbytes (l : List UInt8) : List Value := l.map fun c => .int .u8 c.toNat
theorem vbytes_length (l : List UInt8) : (vbytes l).length = l.length := by simp [vbytes]
theorem vbytes_at (l : List UInt8) (i : Nat) : (vbytes l)[i]? = (l[i]?).map fun c => .int .u8 c.toNat := by simp [vbytes]
theorem vbytes_append (l m : List UInt8) : vbytes (l ++ m) = vbytes l ++ vbytes m := by simp [vbytes]
theorem vbytes_take (l : List UInt8) (n : Nat) : (vbytes l).take n = vbytes (l.take n) := by simp [vbytes, List.map_take]
theorem vbytes_drop (l : List UInt8) (n : Nat) : (vbytes l).drop n = vbytes (l.drop n) := by simp [vbytes, List.map_drop]
theorem Sl.byte {w : World} {B : Nat} {a : Option Addr} {l : List UInt8} {i : Nat} (h : Sl w B a (vbytes l)) (hi : i < l.length) :
    ∃ b off, a = some ⟨b, off, none⟩ ∧ b < B ∧ w.cell? ⟨b, off + i, none⟩ = some (.int .u8 (l[i].toNat : Int)) :=
  h.at (by rw [vbytes_at]; simp [hi])

theorem byte_xor (a b : UInt8) : bits .xor .u8 (a.toNat : Int) (b.toNat : Int) = ((a ^^^ b).toNat : Int) := by
  rw [u8_xor_nat _ _ a.toNat_lt b.toNat_lt, UInt8.toNat_xor]
theorem byte_nought (a : UInt8) : ((a.toNat : Int) == 0) = (a == 0) := by
  rw [Bool.eq_iff_iff]
  simp only [beq_iff_eq]
  constructor
  · intro h; exact UInt8.toNat_inj.1 (by show a.toNat = 0; omega)
  · rintro rfl; rfl
/-- A word as the number in its cell: a name that no simp opens. -/
def n32 (x : BitVec 32) : Int := x.toNat
def n64 (x : BitVec 64) : Int := x.toNat
theorem n32_lo (x : BitVec 32) : 0 ≤ n32 x := by unfold n32; omega
theorem n32_hi (x : BitVec 32) : n32 x < 4294967296 := by unfold n32; have := x.isLt; omega
theorem n64_lo (x : BitVec 64) : 0 ≤ n64 x := by unfold n64; omega
theorem n64_hi (x : BitVec 64) : n64 x < 18446744073709551616 := by unfold n64; have := x.isLt; omega
theorem n32_inj {x y : BitVec 32} : n32 x = n32 y ↔ x = y := by
  unfold n32; rw [← BitVec.toNat_inj]; omega
theorem n64_inj {x y : BitVec 64} : n64 x = n64 y ↔ x = y := by
  unfold n64; rw [← BitVec.toNat_inj]; omega
theorem n32_eq (x y : BitVec 32) : (n32 x == n32 y) = (x == y) := by
  rw [Bool.eq_iff_iff]; simp [n32_inj]
theorem n64_eq (x y : BitVec 64) : (n64 x == n64 y) = (x == y) := by
  rw [Bool.eq_iff_iff]; simp [n64_inj]
theorem n32_xor (x y : BitVec 32) : bits .xor .u32 (n32 x) (n32 y) = n32 (x ^^^ y) := by
  unfold n32; rw [u32_xor_nat _ _ x.isLt y.isLt, BitVec.toNat_xor]
theorem n64_xor (x y : BitVec 64) : bits .xor .u64 (n64 x) (n64 y) = n64 (x ^^^ y) := by
  unfold n64; rw [u64_xor_nat _ _ x.isLt y.isLt, BitVec.toNat_xor]
theorem n32_byte (c : UInt8) : (c.toNat : Int) = n32 (c.toBitVec.setWidth 32) := by
  simp [n32, BitVec.toNat_setWidth]
theorem n64_byte (c : UInt8) : (c.toNat : Int) = n64 (c.toBitVec.setWidth 64) := by
  simp [n64, BitVec.toNat_setWidth]
theorem n32_and1 (x : BitVec 32) : bits .and .u32 (n32 x) 1 = if x.getLsbD 0 then 1 else 0 := by
  unfold n32
  rw [show (1 : Int) = ((1 : Nat) : Int) from rfl, u32_and_nat _ _ x.isLt (by decide), nat_mask1, BitVec.getLsbD, Nat.testBit_zero]
  by_cases h : x.toNat % 2 = 1 <;> simp [h] <;> omega
theorem n32_shr1 (x : BitVec 32) : n32 x / (2 : Int) = n32 (x >>> 1) := by
  unfold n32; rw [BitVec.toNat_ushiftRight, Nat.shiftRight_eq_div_pow]; omega
theorem n32_not (x : BitVec 32) : bits .xor .u32 IntKind.u32.max (n32 x) = n32 (~~~ x) := by
  unfold n32
  rw [show IntKind.u32.max = (((4294967295 : Nat)) : Int) from rfl, u32_xor_nat _ _ (by decide) x.isLt, ← BitVec.xor_allOnes, BitVec.toNat_xor, Nat.xor_comm]; rfl
theorem n64_and (x y : BitVec 64) : bits .and .u64 (n64 x) (n64 y) = n64 (x &&& y) := by
  unfold n64; rw [u64_and_nat _ _ x.isLt y.isLt, BitVec.toNat_and]
theorem n64_mul (x y : BitVec 64) : IntKind.u64.wrap (n64 x * n64 y) = n64 (x * y) := by
  unfold n64
  rw [IntKind.wrap_u64, BitVec.toNat_mul, Int.natCast_emod, Int.natCast_mul]; rfl
theorem n64_shr (x : BitVec 64) (n : Nat) : n64 x / (2 : Int) ^ n = n64 (x >>> n) := by
  unfold n64; rw [BitVec.toNat_ushiftRight, Nat.shiftRight_eq_div_pow]; simp

theorem take_len {α : Type} (l : List α) (n : Nat) (h : n ≤ l.length) : (l.take n).length = n := by rw [List.length_take]; omega
/-- 'b[:min(len(b), m)]': the number that the cut has, under a name, and the list that is left. -/
theorem cut_at {α : Type} (l : List α) (m : Nat) (M : Int) (hM : M = (m : Int)) : ∃ (n : Nat) (l' : List α), (if M < (l.length : Int) then M else (l.length : Int)) = (n : Int) ∧ l' = l.take m ∧ l'.length = n ∧ n ≤ m ∧ n ≤ l.length := by
  subst hM
  refine ⟨min m l.length, l.take m, ?_, rfl, List.length_take, Nat.min_le_left _ _, Nat.min_le_right _ _⟩
  split <;> omega
theorem Sl.take {w : World} {B : Nat} {a : Option Addr} {xs : List Value} (h : Sl w B a xs) (n : Nat) : Sl w B a (xs.take n) := fun hn => by
  obtain ⟨b, off, e, hb, hc⟩ := h (by rintro rfl; simp at hn)
  refine ⟨b, off, e, hb, fun i x hx => hc i x ?_⟩
  rw [List.getElem?_take] at hx
  split at hx
  · exact hx
  · cases hx
theorem Sl.takeBytes {w : World} {B : Nat} {a : Option Addr} {l : List UInt8} (h : Sl w B a (vbytes l)) (n : Nat) : Sl w B a (vbytes (l.take n)) := by
  have := h.take n
  rwa [vbytes_take] at this

/-- The world has drawn at most. -/
def Drawn (w w' : World) : Prop := ∃ n, w' = w.drewN n
theorem Drawn.refl (w : World) : Drawn w w := ⟨0, rfl⟩
theorem Drawn.drewN {w w' : World} (h : Drawn w w') (k : Nat) : Drawn w (w'.drewN k) := by
  obtain ⟨n, rfl⟩ := h; exact ⟨n + k, World.drewN_drewN w n k⟩
theorem Drawn.drew {w w' : World} (h : Drawn w w') : Drawn w w'.drew := by
  obtain ⟨n, rfl⟩ := h; exact ⟨n + 1, rfl⟩
theorem Drawn.trans {a b c : World} (h : Drawn a b) (k : Drawn b c) : Drawn a c := by
  obtain ⟨n, rfl⟩ := k; exact h.drewN n
theorem Drawn.cell {w w' : World} (h : Drawn w w') (p : Addr) : w'.cell? p = w.cell? p := by
  obtain ⟨n, rfl⟩ := h; rfl
theorem Drawn.heap {w w' : World} (h : Drawn w w') : w'.heap = w.heap := by
  obtain ⟨n, rfl⟩ := h; rfl
theorem Drawn.below {w w' a : World} {B : Nat} (h : Drawn w w') (hb : Below B a w) : Below B a w' := by
  obtain ⟨n, rfl⟩ := h; exact below_drewN hb n
theorem Sl.drawn {w w' : World} {B : Nat} {a : Option Addr} {xs : List Value} (h : Sl w B a xs) (hd : Drawn w w') : Sl w' B a xs := h.keep fun p _ => hd.cell p
/-- A contract that leaves the world as it is, in a region that reads quietly. -/
theorem quiet_of_left {P : Program} {f : FuncId} {args : Array Value} {w : World} {n : Nat} {v : Value} (h : Calls P f args (w.drewN n) fun e w' => e = .returned v ∧ w.drewN n = w') :
    Calls P f args (w.drewN n) fun e w'' => e = .returned v ∧ ∃ m, w'' = w.drewN m := h.mono fun _ _ hh => ⟨hh.1, n, hh.2.symm⟩
end Go.Proofs.Ytjaofdalmjiliaa
