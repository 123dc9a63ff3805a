/-
  PLAIN MATHEMATICS OF bailifflaw2.SumTurned: a run of at most four bytes changed in place, and what that does to the sum. No program in sight. No condition.
-/
import Derived.Test.YtdfbmlaehdgcdaaSumPlain
namespace Go.Proofs.Ytdfbmlaehdgcdaa.Crc
/-- Bytes of which those from k on were changed, i of them. -/
def turned (l : List UInt8) (k : Nat) (t : List UInt8) (i : Nat) : List UInt8 := l.take k ++ List.zipWith (· ^^^ ·) ((l.drop k).take i) (t.take i) ++ l.drop (k + i)
theorem turned_length (l : List UInt8) (k : Nat) (t : List UInt8) (i : Nat) (hk : k + i ≤ l.length) (ht : i ≤ t.length) : (turned l k t i).length = l.length := by
  simp [turned]; omega
theorem turned_zero (l : List UInt8) (k : Nat) (t : List UInt8) : turned l k t 0 = l := by simp [turned]
theorem turned_at (l : List UInt8) (k : Nat) (t : List UInt8) (i : Nat) (hk : k + i < l.length) (ht : i ≤ t.length) : (turned l k t i)[k + i]? = some l[k + i] := by
  unfold turned
  have h1 : (l.take k ++ List.zipWith (· ^^^ ·) ((l.drop k).take i) (t.take i)).length = k + i := by simp; omega
  rw [List.getElem?_append_right (by omega), h1, Nat.sub_self, List.getElem?_drop, Nat.add_zero, List.getElem?_eq_getElem hk]
theorem turned_step (l : List UInt8) (k : Nat) (t : List UInt8) (i : Nat) (hk : k + i < l.length) (ht : i < t.length) :
    (turned l k t i).set (k + i) (l[k + i] ^^^ t[i]) = turned l k t (i + 1) := by
  unfold turned
  have h1 : (l.take k ++ List.zipWith (· ^^^ ·) ((l.drop k).take i) (t.take i)).length = k + i := by simp; omega
  rw [List.set_append, if_neg (by omega), h1, Nat.sub_self, List.drop_eq_getElem_cons hk, List.set_cons_zero, ← Nat.add_assoc,
    List.take_add_one (i := i) (l := l.drop k), List.take_add_one (i := i) (l := t), List.getElem?_drop, List.getElem?_eq_getElem hk, List.getElem?_eq_getElem ht,
    List.zipWith_append (by simp; omega)]
  simp
theorem zip_self (a : List (BitVec 8)) : List.zipWith (· ^^^ ·) a a = List.replicate a.length 0#8 := by
  induction a with
  | nil => rfl
  | cons x a ih => simp only [List.zipWith_cons_cons, ih, BitVec.xor_self, List.length_cons, List.replicate_succ]
theorem zip_turn : ∀ (a b : List (BitVec 8)), a.length = b.length → List.zipWith (· ^^^ ·) (List.zipWith (· ^^^ ·) a b) a = b
  | [], [], _ => rfl
  | x :: a, y :: b, h => by
    simp only [List.zipWith_cons_cons, zip_turn a b (by simpa using h)]
    rw [BitVec.xor_comm x y, BitVec.xor_assoc, BitVec.xor_self, BitVec.xor_zero]
theorem zip_map (a b : List UInt8) : (List.zipWith (· ^^^ ·) a b).map (·.toBitVec) = List.zipWith (· ^^^ ·) (a.map (·.toBitVec)) (b.map (·.toBitVec)) := by
  induction a generalizing b with
  | nil => rfl
  | cons x a ih => cases b with
    | nil => rfl
    | cons y b => simp only [List.zipWith_cons_cons, List.map_cons, ih]; rfl
theorem turned_sum (l : List UInt8) (k : Nat) (t : List UInt8) (m : Nat) (hk : k + m ≤ l.length) (ht : m ≤ t.length) (hm : m ≤ 4) :
    sum ((turned l k t m).map (·.toBitVec)) = sum (l.map (·.toBitVec)) ↔ ∀ c ∈ t.take m, c = 0 := by
  have hl : l.map (·.toBitVec) = (l.take k).map (·.toBitVec) ++ ((l.drop k).take m).map (·.toBitVec) ++ (l.drop (k + m)).map (·.toBitVec) := by
    rw [← List.map_append, ← List.map_append, List.append_assoc, ← List.drop_drop, List.take_append_drop, List.take_append_drop]
  have ht2 : (turned l k t m).map (·.toBitVec) = (l.take k).map (·.toBitVec) ++ List.zipWith (· ^^^ ·) (((l.drop k).take m).map (·.toBitVec)) ((t.take m).map (·.toBitVec)) ++ (l.drop (k + m)).map (·.toBitVec) := by
    unfold turned; rw [List.map_append, List.map_append, zip_map]
  have hz : List.zipWith (· ^^^ ·) ((turned l k t m).map (·.toBitVec)) (l.map (·.toBitVec)) = List.replicate k 0#8 ++ (t.take m).map (·.toBitVec) ++ List.replicate (l.length - (k + m)) 0#8 := by
    rw [hl, ht2, List.zipWith_append (by simp; omega), List.zipWith_append (by simp), zip_self, zip_self, zip_turn _ _ (by simp; omega)]
    simp [List.length_take, show min k l.length = k by omega]
  have hlen : ((turned l k t m).map (·.toBitVec)).length = (l.map (·.toBitVec)).length := by simp [turned_length l k t m hk ht]
  rw [sum_inj, ← run_xor _ _ _ _ hlen, hz, BitVec.xor_self, run_window k _ _ (by simp; omega)]
  constructor
  · intro h c hc
    have := h c.toBitVec (List.mem_map_of_mem hc)
    exact UInt8.toBitVec_inj.1 (by simpa using this)
  · intro h c hc
    obtain ⟨d, hd, rfl⟩ := List.mem_map.1 hc
    rw [h d hd]; rfl
/-- Are the first i bytes noughts? -/
def noughts (t : List UInt8) (i : Nat) : Bool := (t.take i).all (· == 0)
theorem noughts_iff (t : List UInt8) (i : Nat) : noughts t i = true ↔ ∀ c ∈ t.take i, c = 0 := by
  unfold noughts; simp only [List.all_eq_true, beq_iff_eq]
theorem noughts_step (t : List UInt8) (i : Nat) (h : i < t.length) : noughts t (i + 1) = (noughts t i && t[i] == 0) := by
  unfold noughts
  rw [List.take_add_one, List.getElem?_eq_getElem h, List.all_append]; simp
theorem turned_noughts (l : List UInt8) (k : Nat) (t : List UInt8) (m : Nat) (hk : k + m ≤ l.length) (ht : m ≤ t.length) (hm : m ≤ 4) :
    (sum ((turned l k t m).map (·.toBitVec)) == sum (l.map (·.toBitVec))) = noughts t m := by
  rw [Bool.eq_iff_iff, beq_iff_eq, noughts_iff]; exact turned_sum l k t m hk ht hm
end Go.Proofs.Ytdfbmlaehdgcdaa.Crc
