/-
  LAYER 11, PLAIN: names, values, bags, requests. Nothing of a program. No condition.
-/
import Derived.Test.YtjaofdalmjiliaaPkLaws
import Derived.Test.YtjaofdalmjiliaaTriples
namespace Go.Proofs.Ytjaofdalmjiliaa

/-- A number that fits a word. -/
def I64 (t : Int) : Prop := -9223372036854775808 ≤ t ∧ t ≤ 9223372036854775807
/-- A value: its kind, number, text. -/
abbrev V3 := Int × Int × ByteArray
/-- What is given of an attribute: category, name, bag. -/
abbrev Gv := Int × ByteArray × List V3
def okC (f : Bool) (c : UInt8) : Bool := (decide (97 ≤ c.toNat) && decide (c.toNat ≤ 122)) || (!f && ((decide (48 ≤ c.toNat) && decide (c.toNat ≤ 57)) || decide (c.toNat = 95)))
def okFrom : Bool → List UInt8 → Bool
  | _, [] => true
  | f, c :: l => okC f c && okFrom false l
/-- May a text be a name? -/
def nameB (s : ByteArray) : Bool := okFrom true s.data.toList && (decide (1 ≤ s.size) && decide (s.size ≤ 16))
/-- May a value be? -/
def rightB (v : V3) : Bool :=
  if v.1 = 1 then (decide (v.2.1 = 0) || decide (v.2.1 = 1)) && decide (v.2.2.size = 0)
  else if v.1 = 2 then decide (v.2.2.size = 0)
  else if v.1 = 3 then decide (v.2.1 = 0) && decide (v.2.2.size ≤ 64)
  else if v.1 = 4 then (decide (0 ≤ v.2.1) && decide (v.2.1 ≤ 1099511627776)) && decide (v.2.2.size = 0)
  else if v.1 = 5 then decide (v.2.1 = 0) && nameB v.2.2
  else false
def bagFrom (k : Int) (l : List V3) : Bool := l.all fun v => rightB v && decide (v.1 = k)
/-- May values be a bag? -/
def bagB (l : List V3) : Bool := bagFrom ((l.head?.map (·.1)).getD 0) l && decide (l.length ≤ 16)
/-- Is it that attribute? -/
def isG (cat : Int) (name : ByteArray) (g : Gv) : Bool := decide (g.1 = cat) && decide (g.2.1 = name)
/-- The place of an attribute; as many as there are, if it isn't there. -/
def idxG (l : List Gv) (cat : Int) (name : ByteArray) : Nat := l.findIdx (isG cat name)
def placeG (l : List Gv) (cat : Int) (name : ByteArray) : Int := if idxG l cat name < l.length then (idxG l cat name : Int) else -1
def fitG (g : Gv) : Bool := (decide (1 ≤ g.1) && decide (g.1 ≤ 4)) && (nameB g.2.1 && bagB g.2.2)
def rightFrom (l : List Gv) : List Gv → Nat → Int
  | [], _ => 0
  | g :: r, i => if fitG g = false then 1 else if idxG l g.1 g.2.1 < i then 11 else rightFrom l r (i + 1)
/-- What is wrong with a request? -/
def rightG (l : List Gv) : Int := if 64 < l.length then 6 else rightFrom l l 0
/-- An attribute's bag. -/
def bagG (l : List Gv) (cat : Int) (name : ByteArray) : List V3 := ((l.find? (isG cat name)).map (·.2.2)).getD []
/-- With an attribute. -/
def withG (l : List Gv) (g : Gv) : List Gv := if idxG l g.1 g.2.1 < l.length then l.set (idxG l g.1 g.2.1) g else l ++ [g]

theorem idx_le (l : List Gv) (cat : Int) (name : ByteArray) : idxG l cat name ≤ l.length := List.findIdx_le_length
theorem isG_iff {cat : Int} {name : ByteArray} {g : Gv} : isG cat name g = true ↔ g.1 = cat ∧ g.2.1 = name := by unfold isG; simp
theorem isG_no {cat : Int} {name : ByteArray} {g : Gv} : isG cat name g = false ↔ ¬ (g.1 = cat ∧ g.2.1 = name) := by rw [← isG_iff]; simp
theorem idx_at {l : List Gv} {cat : Int} {name : ByteArray} (h : idxG l cat name < l.length) : (l[idxG l cat name]).1 = cat ∧ (l[idxG l cat name]).2.1 = name :=
  isG_iff.1 (List.findIdx_getElem (w := h))
theorem idx_before {l : List Gv} {cat : Int} {name : ByteArray} {i : Nat} (h : i < idxG l cat name) : ¬ ((l[i]'(Nat.lt_of_lt_of_le h (idx_le _ _ _))).1 = cat ∧ (l[i]'(Nat.lt_of_lt_of_le h (idx_le _ _ _))).2.1 = name) := by
  have := List.not_of_lt_findIdx h
  exact isG_no.1 (by simpa using this)
/-- The first place, told by what is found there and ahead. -/
theorem idx_of {l : List Gv} {cat : Int} {name : ByteArray} {k : Nat} (hk : k < l.length) (h : isG cat name l[k] = true) (hb : ∀ i (hi : i < k), isG cat name (l[i]'(by omega)) = false) : idxG l cat name = k := by
  unfold idxG
  rw [List.findIdx_eq hk]
  exact ⟨h, fun j hj => hb j hj⟩
theorem idx_none {l : List Gv} {cat : Int} {name : ByteArray} (h : ∀ i (hi : i < l.length), isG cat name l[i] = false) : idxG l cat name = l.length := by
  unfold idxG
  rw [List.findIdx_eq_length]
  intro x hx
  obtain ⟨i, hi, rfl⟩ := List.getElem_of_mem hx
  exact h i hi
theorem idx_le_at {l : List Gv} {i : Nat} (hi : i < l.length) : idxG l l[i].1 l[i].2.1 ≤ i := by
  rcases Nat.lt_or_ge i (idxG l l[i].1 l[i].2.1) with h | h
  · exact absurd ⟨rfl, rfl⟩ (idx_before h)
  · exact h
theorem bag_at {l : List Gv} {cat : Int} {name : ByteArray} (h : idxG l cat name < l.length) : bagG l cat name = (l[idxG l cat name]).2.2 := by
  unfold bagG
  have := List.find?_eq_some_iff_getElem (xs := l) (p := isG cat name) (b := l[idxG l cat name])
  rw [this.2 ⟨isG_iff.2 (idx_at h), idxG l cat name, h, rfl, fun j hj => by simpa using isG_no.2 (idx_before hj)⟩]
  rfl
theorem bag_none {l : List Gv} {cat : Int} {name : ByteArray} (h : ¬ idxG l cat name < l.length) : bagG l cat name = [] := by
  unfold bagG
  have e : l.find? (isG cat name) = none := by
    rw [List.find?_eq_none]
    intro x hx hp
    exact h (List.findIdx_lt_length_of_exists ⟨x, hx, hp⟩)
  rw [e]
  rfl
/-- A right request, told one by one. -/
theorem rightFrom_ok (l : List Gv) : ∀ (r : List Gv) (i : Nat), rightFrom l r i = 0 ↔ ∀ k (hk : k < r.length), fitG r[k] = true ∧ i + k ≤ idxG l r[k].1 r[k].2.1
  | [], i => by simp [rightFrom]
  | g :: r, i => by
    unfold rightFrom
    split
    · rename_i h
      constructor
      · intro h'; exact absurd h' (by decide)
      · intro h'
        have := (h' 0 (by simp)).1
        rw [List.getElem_cons_zero, h] at this
        exact absurd this (by decide)
    · rename_i h
      split
      · rename_i h2
        constructor
        · intro h'; exact absurd h' (by decide)
        · intro h'
          have := (h' 0 (by simp)).2
          rw [List.getElem_cons_zero] at this
          omega
      · rename_i h2
        rw [rightFrom_ok l r (i + 1)]
        constructor
        · intro h' k hk
          cases k with
          | zero => exact ⟨by simpa using h, by simpa using h2⟩
          | succ k =>
            have := h' k (by simpa using hk)
            exact ⟨by simpa using this.1, by rw [List.getElem_cons_succ]; omega⟩
        · intro h' k hk
          have := h' (k + 1) (by simpa using hk)
          rw [List.getElem_cons_succ] at this
          exact ⟨this.1, by omega⟩
theorem right_ok (l : List Gv) : rightG l = 0 ↔ l.length ≤ 64 ∧ ∀ i (hi : i < l.length), fitG l[i] = true ∧ idxG l l[i].1 l[i].2.1 = i := by
  unfold rightG
  split
  · constructor
    · intro h; exact absurd h (by decide)
    · intro h; omega
  · rw [rightFrom_ok]
    constructor
    · intro h
      exact ⟨by omega, fun i hi => ⟨(h i hi).1, by have := (h i hi).2; have := idx_le_at hi; omega⟩⟩
    · intro h i hi
      exact ⟨(h.2 i hi).1, by rw [(h.2 i hi).2]; omega⟩
/-- Right: what is given is given once. -/
theorem right_once {l : List Gv} (h : rightG l = 0) {i j : Nat} (hi : i < l.length) (hj : j < l.length) (e1 : l[i].1 = l[j].1) (e2 : l[i].2.1 = l[j].2.1) : i = j := by
  have h1 := (((right_ok l).1 h).2 i hi).2
  have h2 := (((right_ok l).1 h).2 j hj).2
  rw [e1, e2] at h1
  omega
theorem fit_cat {g : Gv} (h : fitG g = true) : 1 ≤ g.1 ∧ g.1 ≤ 4 := by
  unfold fitG at h; simp at h; exact h.1
theorem fit_name {g : Gv} (h : fitG g = true) : nameB g.2.1 = true := by unfold fitG at h; simp at h; exact h.2.1
theorem fit_bag {g : Gv} (h : fitG g = true) : bagB g.2.2 = true := by unfold fitG at h; simp at h; exact h.2.2
theorem name_size {s : ByteArray} (h : nameB s = true) : 1 ≤ s.size ∧ s.size ≤ 16 := by unfold nameB at h; simp at h; exact h.2
theorem bag_size {l : List V3} (h : bagB l = true) : l.length ≤ 16 := by unfold bagB at h; simp at h; exact h.2
theorem bag_right {l : List V3} (h : bagB l = true) {v : V3} (hv : v ∈ l) : rightB v = true := by
  unfold bagB bagFrom at h
  simp only [Bool.and_eq_true, List.all_eq_true, decide_eq_true_eq] at h
  exact (h.1 v hv).1
theorem right_text {v : V3} (h : rightB v = true) : v.2.2.size ≤ 64 := by
  unfold rightB at h
  split at h
  · simp only [Bool.and_eq_true, Bool.or_eq_true, decide_eq_true_eq] at h; omega
  · split at h
    · simp only [decide_eq_true_eq] at h; omega
    · split at h
      · simp only [Bool.and_eq_true, decide_eq_true_eq] at h; omega
      · split at h
        · simp only [Bool.and_eq_true, decide_eq_true_eq] at h; omega
        · split at h
          · have := name_size (Bool.and_eq_true_iff.1 h).2
            omega
          · exact absurd h (by decide)
/-- Is an attribute told elsewhere than among those that were made of it? -/
theorem with_len (l : List Gv) (g : Gv) : (withG l g).length ≤ l.length + 1 := by
  unfold withG; split <;> simp
end Go.Proofs.Ytjaofdalmjiliaa
