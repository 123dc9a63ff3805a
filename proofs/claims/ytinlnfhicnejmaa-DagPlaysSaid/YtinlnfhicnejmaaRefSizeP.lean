/-
  PLAIN: THE DOCUMENT's SIZE OF CHAPTER 16: marks from the root down. No program.
-/
import Derived.Test.YtinlnfhicnejmaaDagReach
namespace Go.Proofs.Ytinlnfhicnejmaa
set_option linter.unusedVariables false

theorem reach_last {l : List Br} {t v : Int} (h : Reach l t v) : v = t ∨ ∃ u b, Reach l t u ∧ brAt l u = some b ∧ kid b v := by
  induction h with
  | self _ => exact .inl rfl
  | @step t u v b hb hk hr ih =>
    rcases ih with rfl | ⟨u', b', h1, h2, h3⟩
    · exact .inr ⟨t, b, .self hb, hb, hk⟩
    · exact .inr ⟨u', b', .step hb hk h1, h2, h3⟩
/-- How many lie above i. -/
def above (S : List Int) (i : Int) : Nat := (S.filter fun v => decide (i < v)).length
theorem above_step : ∀ (S : List Int) (i : Int), S.Nodup → above S (i - 1) = above S i + if i ∈ S then 1 else 0
  | [], i, _ => by simp [above]
  | x :: S, i, hn => by
    rw [List.nodup_cons] at hn
    have ih := above_step S i hn.2
    unfold above at ih ⊢
    rw [List.filter_cons, List.filter_cons]
    by_cases h1 : x = i
    · subst h1
      rw [if_neg hn.1] at ih
      rw [if_pos (show decide (x - 1 < x) = true from decide_eq_true (by omega)), if_neg (by simp), if_pos (List.mem_cons_self ..), List.length_cons, ih]
    · have hm : (i ∈ x :: S) ↔ i ∈ S := by rw [List.mem_cons]; exact ⟨fun h => h.resolve_left (fun e => h1 e.symm), .inr⟩
      by_cases h2 : i < x
      · rw [if_pos (show decide (i - 1 < x) = true from decide_eq_true (by omega)), if_pos (show decide (i < x) = true from decide_eq_true h2), List.length_cons, List.length_cons, ih]
        by_cases h3 : i ∈ S
        · rw [if_pos h3, if_pos (hm.2 h3)]
        · rw [if_neg h3, if_neg (fun h => h3 (hm.1 h))]
      · rw [if_neg (show ¬ decide (i - 1 < x) = true from by rw [decide_eq_true_eq]; omega), if_neg (show ¬ decide (i < x) = true from by rw [decide_eq_true_eq]; exact h2), ih]
        by_cases h3 : i ∈ S
        · rw [if_pos h3, if_pos (hm.2 h3)]
        · rw [if_neg h3, if_neg (fun h => h3 (hm.1 h))]
theorem above_none (S : List Int) (i : Int) (h : ∀ v ∈ S, v ≤ i) : above S i = 0 := by
  unfold above
  rw [List.filter_eq_nil_iff.2 (fun v hv => by have := h v hv; simp; omega)]
  rfl
theorem above_all (S : List Int) (i : Int) (h : ∀ v ∈ S, i < v) : above S i = S.length := by
  unfold above
  rw [List.filter_eq_self.2 (fun v hv => by simp; exact h v hv)]
theorem above_le (S : List Int) (i : Int) : above S i ≤ S.length := List.length_filter_le ..
/-- A way is marked. -/
def mark (t : Int) (s : List Bool) : List Bool := if t < 0 then s else s.set t.toNat true
theorem mark_len (t : Int) (s : List Bool) : (mark t s).length = s.length := by
  unfold mark; split
  · rfl
  · simp
theorem mark_keep {t : Int} {s : List Bool} {j : Nat} (h : s[j]? = some true) : (mark t s)[j]? = some true := by
  unfold mark; split
  · exact h
  · rw [List.getElem?_set]
    split
    · rename_i e; rw [if_pos (e ▸ (List.getElem?_eq_some_iff.1 h).1)]
    · exact h
theorem mark_at {s : List Bool} {q : Nat} (h : q < s.length) : (mark (q : Int) s)[q]? = some true := by
  unfold mark; rw [if_neg (by omega), Int.toNat_natCast, List.getElem?_set, if_pos rfl, if_pos h]
theorem mark_sound {t : Int} {s : List Bool} {j : Nat} (h : (mark t s)[j]? = some true) : s[j]? = some true ∨ t = (j : Int) := by
  unfold mark at h
  by_cases ht : t < 0
  · rw [if_pos ht] at h; exact .inl h
  · rw [if_neg ht, List.getElem?_set] at h
    by_cases e : t.toNat = j
    · exact .inr (by omega)
    · rw [if_neg e] at h; exact .inl h
def mark3 (b : Br) (s : List Bool) : List Bool := mark b.2.2.2 (mark b.2.2.1 (mark b.2.1 s))
theorem mark3_len (b : Br) (s : List Bool) : (mark3 b s).length = s.length := by unfold mark3; rw [mark_len, mark_len, mark_len]
theorem mark3_keep {b : Br} {s : List Bool} {j : Nat} (h : s[j]? = some true) : (mark3 b s)[j]? = some true := mark_keep (mark_keep (mark_keep h))
theorem mark3_at {b : Br} {s : List Bool} {q : Nat} (hq : q < s.length) (h : kid b (q : Int)) : (mark3 b s)[q]? = some true := by
  unfold mark3
  rcases h with h | h | h
  · rw [← h]; exact mark_keep (mark_keep (mark_at hq))
  · rw [← h]; exact mark_keep (mark_at (by rw [mark_len]; exact hq))
  · rw [← h]; exact mark_at (by rw [mark_len, mark_len]; exact hq)
theorem mark3_sound {b : Br} {s : List Bool} {j : Nat} (h : (mark3 b s)[j]? = some true) : s[j]? = some true ∨ kid b (j : Int) := by
  unfold mark3 at h
  rcases mark_sound h with h | h
  · rcases mark_sound h with h | h
    · rcases mark_sound h with h | h
      · exact .inl h
      · exact .inr (.inl h.symm)
    · exact .inr (.inr (.inl h.symm))
  · exact .inr (.inr (.inr h.symm))
/-- Down to i all is marked that is reached. -/
structure RSz (l : List Br) (root : Int) (S : List Int) (i : Int) (n : Nat) (seen : List Bool) : Prop where
  len : seen.length = l.length
  sound : ∀ j : Nat, seen[j]? = some true → Reach l root (j : Int)
  top : seen[root.toNat]? = some true
  closed : ∀ (u : Int) (b : Br), Reach l root u → i < u → brAt l u = some b → ∀ q : Nat, kid b (q : Int) → seen[q]? = some true
  num : n = above S i
theorem RSz.start {l : List Br} {S : List Int} {r : Nat} (hg : Good l) (hr : r < l.length) (hS : ∀ v, v ∈ S ↔ Reach l (r : Int) v) : RSz l (r : Int) S (r : Int) 0 ((List.replicate l.length false).set r true) := by
  refine ⟨by simp, fun j hj => ?_, ?_, fun u b h1 h2 => ?_, ?_⟩
  · rw [List.getElem?_set] at hj
    by_cases e : r = j
    · subst e; exact .self (brAt_at (List.getElem?_eq_getElem hr))
    · rw [if_neg e] at hj
      simp [List.getElem?_replicate] at hj
  · rw [Int.toNat_natCast, List.getElem?_set, if_pos rfl, if_pos (by simpa using hr)]
  · have := reach_le hg h1; omega
  · rw [above_none S _ (fun v hv => reach_le hg ((hS v).1 hv))]
theorem RSz.reach {l : List Br} {root : Int} {S : List Int} {n k : Nat} {seen : List Bool} (hg : Good l) (h : RSz l root S (k : Int) n seen) (hr : Reach l root (k : Int)) : seen[k]? = some true := by
  rcases reach_last hr with e | ⟨u, b, h1, h2, h3⟩
  · have := h.top
    rwa [← e, Int.toNat_natCast] at this
  · exact h.closed u b h1 (kid_good hg h2 h3).2 h2 k h3
theorem RSz.skip {l : List Br} {root : Int} {S : List Int} {n k : Nat} {seen : List Bool} (hg : Good l) (hn : S.Nodup) (hS : ∀ v, v ∈ S ↔ Reach l root v) (h : RSz l root S (k : Int) n seen) (hk : seen[k]? = some false) : RSz l root S ((k : Int) - 1) n seen := by
  have hno : ¬ Reach l root (k : Int) := fun hr => by have := h.reach hg hr; rw [hk] at this; cases this
  refine ⟨h.len, h.sound, h.top, fun u b h1 h2 h3 q h4 => ?_, ?_⟩
  · have : u ≠ (k : Int) := fun e => hno (e ▸ h1)
    exact h.closed u b h1 (by omega) h3 q h4
  · rw [above_step S _ hn, if_neg (fun hm => hno ((hS _).1 hm))]
    exact h.num
theorem RSz.mark {l : List Br} {root : Int} {S : List Int} {n k : Nat} {seen : List Bool} {b : Br} (hg : Good l) (hn : S.Nodup) (hS : ∀ v, v ∈ S ↔ Reach l root v) (h : RSz l root S (k : Int) n seen) (hk : seen[k]? = some true) (hb : l[k]? = some b) : RSz l root S ((k : Int) - 1) (n + 1) (mark3 b seen) := by
  have hr := h.sound k hk
  have hbA := brAt_at hb
  have hkid : ∀ q : Nat, kid b (q : Int) → q < l.length := fun q hq => by
    have h1 := kid_good hg hbA hq
    have h2 := (List.getElem?_eq_some_iff.1 hb).1
    omega
  refine ⟨by rw [mark3_len]; exact h.len, fun j hj => ?_, mark3_keep h.top, fun u c h1 h2 h3 q h4 => ?_, ?_⟩
  · rcases mark3_sound hj with h1 | h1
    · exact h.sound j h1
    · have hj := hkid j h1
      exact reach_trans hr (.step hbA h1 (.self (brAt_at (List.getElem?_eq_getElem hj))))
  · by_cases e : u = (k : Int)
    · subst e
      rw [hbA] at h3
      injection h3 with h3
      subst h3
      exact mark3_at (by rw [h.len]; exact hkid q h4) h4
    · exact mark3_keep (h.closed u c h1 (by omega) h3 q h4)
  · rw [above_step S _ hn, if_pos ((hS _).2 hr), h.num]
theorem RSz.done {l : List Br} {root : Int} {S : List Int} {n : Nat} {seen : List Bool} (hS : ∀ v, v ∈ S ↔ Reach l root v) (h : RSz l root S (-1) n seen) : n = S.length := by
  rw [h.num, above_all S _ (fun v hv => by
    obtain ⟨b, hb⟩ := reach_valid ((hS v).1 hv)
    obtain ⟨k, rfl, _⟩ := brAt_some hb
    omega)]
theorem RSz.le {l : List Br} {root i : Int} {S : List Int} {n : Nat} {seen : List Bool} (h : RSz l root S i n seen) : n ≤ S.length := by rw [h.num]; exact above_le S i
theorem size_none {l : List Br} {root : Int} (h : root < 0 ∨ (l.length : Int) ≤ root) : sizeP l root = 0 := by
  obtain ⟨_, S, h1, h2, h3⟩ := size_spec l root
  have : S = [] := by
    rcases S with _ | ⟨x, S⟩
    · rfl
    · exfalso
      obtain ⟨b, hb⟩ := reach_head ((h3 x).1 (List.mem_cons_self ..))
      obtain ⟨k, rfl, _, hk⟩ := brAt_some hb
      omega
  rw [← h1, this]
  rfl
end Go.Proofs.Ytinlnfhicnejmaa
