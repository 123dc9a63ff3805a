/-
  PLAIN MATHEMATICS OF CHAPTER 2's CHAIN, with no program in sight: eight steps over the number ahead, one for each byte. No condition.
-/
namespace Go.Proofs.Ytdfbmlaehdgcdaa.Fnv
def basis : BitVec 64 := 14695981039346656037#64
def prime : BitVec 64 := 1099511628211#64
def low : BitVec 64 := 255#64
def step (h c : BitVec 64) : BitVec 64 := (h ^^^ c) * prime
/-- behind n steps over the number ahead -/
def heads (p : BitVec 64) : Nat → BitVec 64
  | 0 => basis
  | n + 1 => step (heads p n) ((p >>> (8 * n)) &&& low)
def run (h : BitVec 64) (l : List UInt8) : BitVec 64 := l.foldl (fun h c => step h (c.toBitVec.setWidth 64)) h
def chain (p : BitVec 64) (l : List UInt8) : BitVec 64 := run (heads p 8) l
theorem run_take (h : BitVec 64) (l : List UInt8) (k : Nat) (hk : k < l.length) : run h (l.take (k + 1)) = step (run h (l.take k)) (l[k].toBitVec.setWidth 64) := by
  rw [List.take_add_one, List.getElem?_eq_getElem hk]; unfold run; rw [List.foldl_append]; rfl
theorem run_append (h : BitVec 64) (l m : List UInt8) : run h (l ++ m) = run (run h l) m := by unfold run; rw [List.foldl_append]
theorem chain_snoc (p : BitVec 64) (l : List UInt8) (c : UInt8) : chain p (l ++ [c]) = step (chain p l) (c.toBitVec.setWidth 64) := by
  unfold chain; rw [run_append]; rfl
theorem shift_shift (p : BitVec 64) (n : Nat) : (p >>> (8 * n)) >>> 8 = p >>> (8 * (n + 1)) := by
  rw [← BitVec.shiftRight_add]; rfl
theorem nought_one : chain 0#64 [] ≠ chain 1#64 [] := by decide +kernel
end Go.Proofs.Ytdfbmlaehdgcdaa.Fnv
