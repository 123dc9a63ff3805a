/-
  PLAIN MATHEMATICS OF CHAPTER 2'S SUM (a reflected CRC of 32 bits), with no program in sight: what a bytewise run is, that it is linear, and that a change within four bytes is told. No condition.
-/
namespace Go.Proofs.Ytdfbmlaehdgcdaa.Crc
def poly : BitVec 32 := 0xedb88320#32
/-- all ones: where a sum begins -/
def ones : BitVec 32 := 4294967295#32
def step (s : BitVec 32) : BitVec 32 := if s.getLsbD 0 then (s >>> 1) ^^^ poly else s >>> 1
def steps : Nat → BitVec 32 → BitVec 32
  | 0, s => s
  | n + 1, s => steps n (step s)
def upd (s : BitVec 32) (c : BitVec 8) : BitVec 32 := steps 8 (s ^^^ c.setWidth 32)
def run (s : BitVec 32) (l : List (BitVec 8)) : BitVec 32 := l.foldl upd s
def sum (l : List (BitVec 8)) : BitVec 32 := ~~~ (run ones l)

theorem sum_nil : sum [] = 0#32 := by decide
theorem sum_digits : sum [49, 50, 51, 52, 53, 54, 55, 56, 57] = 0xcbf43926#32 := by decide +kernel

theorem step_xor (a b : BitVec 32) : step (a ^^^ b) = step a ^^^ step b := by
  unfold step
  rw [BitVec.getLsbD_xor]
  cases a.getLsbD 0 <;> cases b.getLsbD 0 <;> simp [BitVec.ushiftRight_xor_distrib]
  · rw [BitVec.xor_assoc]
  · rw [BitVec.xor_assoc, BitVec.xor_assoc, BitVec.xor_comm _ (b >>> 1)]
  · rw [BitVec.xor_assoc, ← BitVec.xor_assoc poly, BitVec.xor_comm poly, BitVec.xor_assoc (b >>> 1)]; simp
theorem steps_xor (n : Nat) : ∀ a b, steps n (a ^^^ b) = steps n a ^^^ steps n b := by
  induction n with
  | zero => intro a b; rfl
  | succ n ih => intro a b; simp only [steps, step_xor, ih]
theorem steps_add (m : Nat) : ∀ n s, steps (m + n) s = steps n (steps m s) := by
  induction m with
  | zero => intro n s; simp [steps]
  | succ m ih => intro n s; rw [Nat.succ_add]; simp only [steps]; exact ih n _
theorem step_zero {s : BitVec 32} (h : step s = 0#32) : s = 0#32 := by
  unfold step at h
  split at h
  · have h2 := congrArg (fun x => BitVec.getLsbD x 31) h
    simp at h2
    exact absurd h2 (by decide)
  · rename_i h0
    apply BitVec.eq_of_getLsbD_eq
    intro i hi
    match i with
    | 0 => simpa using h0
    | j + 1 =>
      have h2 := congrArg (fun x => BitVec.getLsbD x j) h
      simp at h2
      rw [Nat.add_comm]; simp [h2]
theorem steps_zero (n : Nat) : ∀ {s : BitVec 32}, steps n s = 0#32 → s = 0#32 := by
  induction n with
  | zero => intro s h; exact h
  | succ n ih => intro s h; exact step_zero (ih h)
theorem steps_of_zero (n : Nat) : steps n 0#32 = 0#32 := by
  induction n with
  | zero => rfl
  | succ n ih => exact ih
/-- linearity of a run -/
theorem run_xor : ∀ (l m : List (BitVec 8)) (a b : BitVec 32), l.length = m.length → run (a ^^^ b) (List.zipWith (· ^^^ ·) l m) = run a l ^^^ run b m
  | [], [], _, _, _ => rfl
  | c :: l, d :: m, a, b, h => by
    have e : upd (a ^^^ b) (c ^^^ d) = upd a c ^^^ upd b d := by
      unfold upd
      rw [← steps_xor, BitVec.setWidth_xor]
      congr 1
      rw [BitVec.xor_assoc, BitVec.xor_assoc, ← BitVec.xor_assoc b, BitVec.xor_comm b, BitVec.xor_assoc]
    show run (upd (a ^^^ b) (c ^^^ d)) (List.zipWith (· ^^^ ·) l m) = _
    rw [e, run_xor l m _ _ (by simpa using h)]; rfl
theorem run_append (s : BitVec 32) (l m : List (BitVec 8)) : run s (l ++ m) = run (run s l) m := by simp [run]
theorem run_zeros (n : Nat) : ∀ s, run s (List.replicate n 0#8) = steps (8 * n) s := by
  induction n with
  | zero => intro s; rfl
  | succ n ih =>
    intro s
    show run (upd s 0#8) (List.replicate n 0#8) = _
    rw [ih, show 8 * (n + 1) = 8 + 8 * n by omega, steps_add]
    congr 1
    unfold upd; simp
/-- four bytes as one word -/
def word (d : List (BitVec 8)) : BitVec 32 := match d with
  | [] => 0#32
  | c :: l => c.setWidth 32 ^^^ (word l <<< 8)
theorem step_shift (x : BitVec 32) (h : x.getLsbD 31 = false) : step (x <<< 1) = x := by
  unfold step
  rw [if_neg (by simp)]
  apply BitVec.eq_of_getLsbD_eq
  intro i hi
  rw [BitVec.getLsbD_ushiftRight, BitVec.getLsbD_shiftLeft]
  by_cases h31 : i = 31
  · subst h31; rw [h]; decide
  · simp [show 1 + i < 32 by omega, show 1 + i - 1 = i by omega]
theorem steps_shift (n : Nat) : ∀ x : BitVec 32, (∀ i, 32 ≤ i + n → x.getLsbD i = false) → steps n (x <<< n) = x := by
  induction n with
  | zero => intro x _; simp [steps]
  | succ n ih =>
    intro x h
    simp only [steps]
    rw [show x <<< (n + 1) = (x <<< n) <<< 1 by rw [BitVec.shiftLeft_add]]
    rw [step_shift]
    · exact ih x (fun i hi => h i (by omega))
    · rw [BitVec.getLsbD_shiftLeft]
      by_cases hn : 31 < n
      · simp [hn]
      · rw [h (31 - n) (by omega)]; simp
theorem word_bits : ∀ (d : List (BitVec 8)) (i : Nat), 8 * d.length ≤ i → (word d).getLsbD i = false
  | [], i, _ => by simp [word]
  | c :: l, i, h => by
    simp only [List.length_cons] at h
    simp only [word, BitVec.getLsbD_xor, BitVec.getLsbD_setWidth, BitVec.getLsbD_shiftLeft]
    rw [word_bits l (i - 8) (by omega), BitVec.getLsbD_of_ge c i (by omega)]
    simp
theorem run_word : ∀ (d : List (BitVec 8)) (s : BitVec 32), d.length ≤ 4 → run s d = steps (8 * d.length) (s ^^^ word d)
  | [], s, _ => by simp [run, word, steps]
  | c :: l, s, h => by
    simp only [List.length_cons] at h
    show run (upd s c) l = _
    rw [run_word l _ (by omega)]
    simp only [List.length_cons]
    rw [show 8 * (l.length + 1) = 8 + 8 * l.length by omega, steps_add]
    congr 1
    simp only [word, upd]
    rw [← BitVec.xor_assoc, steps_xor 8 _ (word l <<< 8), steps_shift 8 (word l)]
    intro i hi
    exact word_bits l i (by omega)
theorem word_zero : ∀ (d : List (BitVec 8)), d.length ≤ 4 → word d = 0#32 → ∀ c ∈ d, c = 0#8
  | [], _, _, c, hc => by cases hc
  | c :: l, h, hw, e, he => by
    simp only [List.length_cons] at h
    have hbit : ∀ i, (word (c :: l)).getLsbD i = false := by intro i; rw [hw]; simp
    have hc : c = 0#8 := by
      apply BitVec.eq_of_getLsbD_eq
      intro i hi
      have := hbit i
      simp only [word, BitVec.getLsbD_xor, BitVec.getLsbD_setWidth, BitVec.getLsbD_shiftLeft] at this
      rw [decide_eq_true (show i < 32 by omega), decide_eq_true hi] at this
      simpa [-BitVec.getLsbD_eq_getElem] using this
    have hl : word l = 0#32 := by
      apply BitVec.eq_of_getLsbD_eq
      intro i hi
      by_cases hi2 : 8 * l.length ≤ i
      · simp [word_bits l i hi2]
      · have := hbit (i + 8)
        simp only [word, BitVec.getLsbD_xor, BitVec.getLsbD_setWidth, BitVec.getLsbD_shiftLeft] at this
        rw [BitVec.getLsbD_of_ge c (i + 8) (by omega), decide_eq_true (show i + 8 < 32 by omega), decide_eq_false (show ¬ i + 8 < 8 by omega), show i + 8 - 8 = i by omega] at this
        simpa [-BitVec.getLsbD_eq_getElem] using this
    cases he with
    | head => exact hc
    | tail _ h' => exact word_zero l (by omega) hl e h'
/-- the window's law: zeros ahead, at most four bytes, zeros behind -/
theorem run_window (k n : Nat) (d : List (BitVec 8)) (hd : d.length ≤ 4) :
    run 0#32 (List.replicate k 0#8 ++ d ++ List.replicate n 0#8) = 0#32 ↔ ∀ c ∈ d, c = 0#8 := by
  rw [run_append, run_append, run_zeros, run_zeros, steps_of_zero, run_word d _ hd]
  simp only [BitVec.zero_xor]
  constructor
  · intro h
    exact word_zero d hd (steps_zero _ (steps_zero _ h))
  · intro h
    have : word d = 0#32 := by
      clear hd
      induction d with
      | nil => rfl
      | cons c l ih => simp only [word]; rw [ih (fun x hx => h x (List.mem_cons_of_mem _ hx)), h c (by simp)]; simp
    rw [this, steps_of_zero, steps_of_zero]
theorem sum_xor3 (a b c : List (BitVec 8)) (h1 : a.length = b.length) (h2 : b.length = c.length) :
    sum (List.zipWith (· ^^^ ·) (List.zipWith (· ^^^ ·) a b) c) = sum a ^^^ sum b ^^^ sum c := by
  unfold sum
  have e : ones = (ones ^^^ ones) ^^^ ones := by decide
  conv => lhs; rw [e]
  rw [run_xor _ _ _ _ (by simp; omega), run_xor _ _ _ _ h1]
  have hn : ∀ x : BitVec 32, ~~~ x = x ^^^ ones := by intro x; rw [show ones = BitVec.allOnes 32 by decide, BitVec.xor_allOnes]
  generalize run _ a = x
  generalize run _ b = y
  generalize run _ c = z
  rw [hn (x ^^^ y ^^^ z), hn x, hn y, hn z]
  generalize ones = g
  rw [BitVec.xor_assoc (x ^^^ g), BitVec.xor_assoc x g, ← BitVec.xor_assoc g, ← BitVec.xor_assoc g y g, BitVec.xor_comm g y, BitVec.xor_assoc y g g, BitVec.xor_self]
  simp [BitVec.xor_assoc]
theorem sum_inj (a b : List (BitVec 8)) : sum a = sum b ↔ run ones a ^^^ run ones b = 0#32 := by
  unfold sum
  rw [BitVec.not_inj]
  constructor
  · intro h; rw [h]; simp
  · intro h
    exact BitVec.xor_eq_zero_iff.1 h
end Go.Proofs.Ytdfbmlaehdgcdaa.Crc
