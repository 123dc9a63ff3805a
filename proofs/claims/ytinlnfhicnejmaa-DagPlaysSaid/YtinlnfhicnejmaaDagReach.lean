/-
  PLAIN: WHAT IS REACHED IN A DIAGRAM, AND HOW MUCH. No program.
-/
import Derived.Test.YtinlnfhicnejmaaDagSize2
namespace Go.Proofs.Ytinlnfhicnejmaa
set_option linter.unusedVariables false

/-- A way of a branch. -/
def kid (b : Br) (u : Int) : Prop := u = b.2.1 ∨ u = b.2.2.1 ∨ u = b.2.2.2
/-- From t one comes to v. -/
inductive Reach (l : List Br) : Int → Int → Prop
  | self {t : Int} {b : Br} : brAt l t = some b → Reach l t t
  | step {t u v : Int} {b : Br} : brAt l t = some b → kid b u → Reach l u v → Reach l t v
theorem brAt_some {l : List Br} {t : Int} {b : Br} (h : brAt l t = some b) : ∃ k : Nat, t = (k : Int) ∧ l[k]? = some b ∧ k < l.length := by
  unfold brAt at h
  split at h
  · cases h
  · obtain ⟨k, rfl⟩ := Int.eq_ofNat_of_zero_le (by omega : 0 ≤ t)
    rw [Int.toNat_natCast] at h
    exact ⟨k, rfl, h, (List.getElem?_eq_some_iff.1 h).1⟩
theorem brAt_at {l : List Br} {k : Nat} {b : Br} (h : l[k]? = some b) : brAt l (k : Int) = some b := by
  unfold brAt; rw [if_neg (by omega), Int.toNat_natCast]; exact h
theorem kid_good {l : List Br} (hg : Good l) {t u : Int} {b : Br} (h : brAt l t = some b) (hu : kid b u) : -1048576 ≤ u ∧ u < t := by
  obtain ⟨k, rfl, hk, _⟩ := brAt_some h
  obtain ⟨_, _, h1, h2, h3⟩ := hg k b hk
  rcases hu with rfl | rfl | rfl
  · exact h1
  · exact h2
  · exact h3
theorem reach_le {l : List Br} (hg : Good l) {t v : Int} (h : Reach l t v) : v ≤ t := by
  induction h with
  | self _ => exact Int.le_refl _
  | step hb hk _ ih => have := kid_good hg hb hk; omega
theorem reach_valid {l : List Br} {t v : Int} (h : Reach l t v) : ∃ b, brAt l v = some b := by
  induction h with
  | self hb => exact ⟨_, hb⟩
  | step _ _ _ ih => exact ih
theorem reach_head {l : List Br} {t v : Int} (h : Reach l t v) : ∃ b, brAt l t = some b := by
  cases h with
  | self hb => exact ⟨_, hb⟩
  | step hb _ _ => exact ⟨_, hb⟩
theorem reach_trans {l : List Br} {t u v : Int} (h : Reach l t u) (k : Reach l u v) : Reach l t v := by
  induction h with
  | self _ => exact k
  | step hb hk _ ih => exact .step hb hk (ih k)
/-- A row without repeats that lies in another one is no longer. -/
theorem nodup_le {α : Type} [DecidableEq α] : ∀ (a b : List α), a.Nodup → (∀ x ∈ a, x ∈ b) → a.length ≤ b.length
  | [], b, _, _ => Nat.zero_le _
  | x :: a, b, hn, hs => by
    rw [List.nodup_cons] at hn
    have hx := hs x (by simp)
    have h := nodup_le a (b.erase x) hn.2 (fun y hy => by
      have : y ≠ x := fun e => hn.1 (e ▸ hy)
      exact (List.mem_erase_of_ne this).2 (hs y (by simp [hy])))
    rw [List.length_erase_of_mem hx] at h
    have : 0 < b.length := List.length_pos_of_mem hx
    rw [List.length_cons]
    omega
def idxs (l : List Br) : List Int := (List.range l.length).map Int.ofNat
theorem idxs_len (l : List Br) : (idxs l).length = l.length := by simp [idxs]
theorem mem_idxs {l : List Br} {t : Int} {b : Br} (h : brAt l t = some b) : t ∈ idxs l := by
  obtain ⟨k, rfl, _, hk⟩ := brAt_some h
  unfold idxs
  rw [List.mem_map]
  exact ⟨k, List.mem_range.2 hk, rfl⟩
/-- What holds while Size goes on. -/
structure Inv (l : List Br) (root : Int) (st seen : List Int) : Prop where
  nodup : seen.Nodup
  valid : ∀ t ∈ seen, ∃ b, brAt l t = some b
  fromRoot : ∀ t ∈ seen, Reach l root t
  ways : ∀ t ∈ st, ∀ v, Reach l t v → Reach l root v
  top : (∃ b, brAt l root = some b) → root ∈ seen ∨ root ∈ st
  closed : ∀ t ∈ seen, ∀ b, brAt l t = some b → ∀ u, kid b u → (∃ c, brAt l u = some c) → u ∈ seen ∨ u ∈ st
theorem sizeRun_inv (l : List Br) (root : Int) : ∀ (f : Nat) (st seen : List Int), Inv l root st seen → st.length + 4 * (l.length - seen.length) + 1 ≤ f → seen.length ≤ l.length →
    ∃ S : List Int, sizeRun l f st seen = some S.length ∧ S.Nodup ∧ ∀ v, v ∈ S ↔ Reach l root v
  | 0, st, seen, _, h, _ => by omega
  | f + 1, [], seen, hi, _, _ => by
    refine ⟨seen, rfl, hi.nodup, fun v => ⟨hi.fromRoot v, fun hr => ?_⟩⟩
    have hall : ∀ t v, Reach l t v → t ∈ seen → v ∈ seen := by
      intro t v h
      induction h with
      | self _ => exact id
      | step hb hk hr ih =>
        intro ht
        have hval := reach_head hr
        rcases hi.closed _ ht _ hb _ hk hval with h | h
        · exact ih h
        · simp at h
    have hroot : ∃ b, brAt l root = some b := by
      cases hr with
      | self h => exact ⟨_, h⟩
      | step h _ _ => exact ⟨_, h⟩
    rcases hi.top hroot with h | h
    · exact hall _ _ hr h
    · simp at h
  | f + 1, t :: r, seen, hi, hf, hl => by
    unfold sizeRun
    rw [List.length_cons] at hf
    by_cases hs : t ∈ seen
    · rw [if_pos hs]
      refine sizeRun_inv l root f r seen ⟨hi.nodup, hi.valid, hi.fromRoot, fun u hu => hi.ways u (by simp [hu]), fun h => ?_, fun u hu b hb c hc hv => ?_⟩ (by omega) hl
      · rcases hi.top h with h | h
        · exact .inl h
        · rcases List.mem_cons.1 h with rfl | h
          · exact .inl hs
          · exact .inr h
      · rcases hi.closed u hu b hb c hc hv with h | h
        · exact .inl h
        · rcases List.mem_cons.1 h with rfl | h
          · exact .inl hs
          · exact .inr h
    · rw [if_neg hs]
      rcases hb : brAt l t with _ | b
      · refine sizeRun_inv l root f r seen ⟨hi.nodup, hi.valid, hi.fromRoot, fun u hu => hi.ways u (by simp [hu]), fun h => ?_, fun u hu b hb' c hc hv => ?_⟩ (by omega) hl
        · rcases hi.top h with h' | h'
          · exact .inl h'
          · rcases List.mem_cons.1 h' with rfl | h'
            · obtain ⟨b, h⟩ := h; rw [hb] at h; cases h
            · exact .inr h'
        · rcases hi.closed u hu b hb' c hc hv with h' | h'
          · exact .inl h'
          · rcases List.mem_cons.1 h' with rfl | h'
            · obtain ⟨b, h⟩ := hv; rw [hb] at h; cases h
            · exact .inr h'
      · have hnd : (seen ++ [t]).Nodup := by
          rw [List.nodup_append]
          exact ⟨hi.nodup, by simp, fun x hx y hy => by simp at hy; subst hy; exact fun e => hs (e ▸ hx)⟩
        have hval : ∀ u ∈ seen ++ [t], ∃ c, brAt l u = some c := fun u hu => by
          rcases List.mem_append.1 hu with h | h
          · exact hi.valid u h
          · simp at h; subst h; exact ⟨b, hb⟩
        have hlen : (seen ++ [t]).length ≤ l.length := by
          have := nodup_le _ (idxs l) hnd (fun u hu => by obtain ⟨c, hc⟩ := hval u hu; exact mem_idxs hc)
          rwa [idxs_len] at this
        have hroot : Reach l root t := hi.ways t (by simp) t (.self hb)
        have hlen' : seen.length + 1 ≤ l.length := by simpa using hlen
        refine sizeRun_inv l root f _ _ ⟨hnd, hval, fun u hu => ?_, fun u hu v hv => ?_, fun h => ?_, fun u hu c hc k hk hv => ?_⟩ (by simp only [List.length_cons, List.length_append, List.length_nil]; omega) hlen
        · rcases List.mem_append.1 hu with h | h
          · exact hi.fromRoot u h
          · simp at h; subst h; exact hroot
        · simp only [List.mem_cons] at hu
          rcases hu with rfl | rfl | rfl | hu
          · exact hi.ways t (by simp) v (.step hb (.inr (.inr rfl)) hv)
          · exact hi.ways t (by simp) v (.step hb (.inr (.inl rfl)) hv)
          · exact hi.ways t (by simp) v (.step hb (.inl rfl) hv)
          · exact hi.ways u (by simp [hu]) v hv
        · rcases hi.top h with h | h
          · exact .inl (by simp [h])
          · rcases List.mem_cons.1 h with rfl | h
            · exact .inl (by simp)
            · exact .inr (by simp [h])
        · rcases List.mem_append.1 hu with h | h
          · rcases hi.closed u h c hc k hk hv with h' | h'
            · exact .inl (by simp [h'])
            · rcases List.mem_cons.1 h' with rfl | h'
              · exact .inl (by simp)
              · exact .inr (by simp [h'])
          · simp at h
            subst h
            rw [hb] at hc
            injection hc with hc
            subst hc
            rcases hk with rfl | rfl | rfl <;> exact .inr (by simp)
/-- How many are reached. -/
def sizeP (l : List Br) (root : Int) : Nat := (sizeRun l (4 * l.length + 2) [root] []).getD 0
theorem size_spec (l : List Br) (root : Int) : sizeRun l (4 * l.length + 2) [root] [] = some (sizeP l root) ∧ ∃ S : List Int, S.length = sizeP l root ∧ S.Nodup ∧ ∀ v, v ∈ S ↔ Reach l root v := by
  obtain ⟨S, h1, h2, h3⟩ := sizeRun_inv l root (4 * l.length + 2) [root] [] ⟨List.nodup_nil, by simp, by simp, fun t ht v hv => by simp at ht; subst ht; exact hv, fun _ => .inr (by simp), by simp⟩ (by simp; omega) (Nat.zero_le _)
  have e : sizeP l root = S.length := by unfold sizeP; rw [h1]; rfl
  exact ⟨by rw [e]; exact h1, S, e.symm, h2, h3⟩
theorem size_len (l : List Br) (root : Int) : sizeP l root ≤ l.length := by
  obtain ⟨_, S, h1, h2, h3⟩ := size_spec l root
  rw [← h1, ← idxs_len l]
  exact nodup_le S _ h2 (fun v hv => by obtain ⟨b, hb⟩ := reach_valid ((h3 v).1 hv); exact mem_idxs hb)
theorem size_kid {l : List Br} (hg : Good l) {t u : Int} {b : Br} (hb : brAt l t = some b) (hu : kid b u) : sizeP l u < sizeP l t := by
  obtain ⟨_, S, h1, h2, h3⟩ := size_spec l u
  obtain ⟨_, T, k1, k2, k3⟩ := size_spec l t
  rw [← h1, ← k1]
  have hnt : t ∉ S := fun h => by
    have h4 := reach_le hg ((h3 t).1 h)
    have h5 := kid_good hg hb hu
    omega
  have := nodup_le (t :: S) T (List.nodup_cons.2 ⟨hnt, h2⟩) (fun v hv => by
    rcases List.mem_cons.1 hv with rfl | hv
    · exact (k3 _).2 (.self hb)
    · exact (k3 v).2 (.step hb hu ((h3 v).1 hv)))
  rw [List.length_cons] at this
  omega
theorem size_sum {l : List Br} {t : Int} {b : Br} (hb : brAt l t = some b) : sizeP l t ≤ 1 + sizeP l b.2.1 + sizeP l b.2.2.1 + sizeP l b.2.2.2 := by
  obtain ⟨_, T, k1, k2, k3⟩ := size_spec l t
  obtain ⟨_, X, x1, x2, x3⟩ := size_spec l b.2.1
  obtain ⟨_, Y, y1, y2, y3⟩ := size_spec l b.2.2.1
  obtain ⟨_, Z, z1, z2, z3⟩ := size_spec l b.2.2.2
  rw [← k1, ← x1, ← y1, ← z1]
  have := nodup_le T (t :: (X ++ (Y ++ Z))) k2 (fun v hv => by
    have hr := (k3 v).1 hv
    cases hr with
    | self _ => simp
    | step hb' hk hr =>
      rw [hb] at hb'
      injection hb' with hb'
      subst hb'
      rcases hk with rfl | rfl | rfl
      · exact List.mem_cons_of_mem _ (List.mem_append_left _ ((x3 v).2 hr))
      · exact List.mem_cons_of_mem _ (List.mem_append_right _ (List.mem_append_left _ ((y3 v).2 hr)))
      · exact List.mem_cons_of_mem _ (List.mem_append_right _ (List.mem_append_right _ ((z3 v).2 hr))))
  simp only [List.length_cons, List.length_append] at this
  omega
theorem good_i64 {l : List Br} (hg : Good l) (hl : l.length ≤ 2000) : ∀ b ∈ l, I64 b.2.1 ∧ I64 b.2.2.1 ∧ I64 b.2.2.2 := fun b hb => by
  obtain ⟨i, hi⟩ := List.mem_iff_getElem?.1 hb
  have hil := (List.getElem?_eq_some_iff.1 hi).1
  obtain ⟨_, _, h1, h2, h3⟩ := hg i b hi
  unfold I64
  omega
theorem good_nil : Good [] := fun i b h => by simp at h
theorem may_range {l : List Br} {a w : Int} (h : mayP l a w = true) : -1048576 ≤ w ∧ w < l.length := by
  unfold mayP at h
  by_cases hw : w < 0
  · rw [if_pos hw] at h
    have := of_decide_eq_true h
    exact ⟨this, by omega⟩
  · rw [if_neg hw] at h
    rcases hb : l[w.toNat]? with _ | b
    · rw [hb] at h; cases h
    · have := (List.getElem?_eq_some_iff.1 hb).1
      omega
/-- Make keeps a diagram good. -/
theorem good_make {l : List Br} (hg : Good l) (most : Nat) (b : Br) : Good (makeP most l b).2.2 := by
  unfold makeP
  split
  · exact hg
  · rename_i h1
    split
    · exact hg
    · rename_i h2
      split
      · exact hg
      · split
        · exact hg
        · split
          · exact hg
          · intro i c hc
            have h2' : mayP l b.1 b.2.1 = true ∧ mayP l b.1 b.2.2.1 = true ∧ mayP l b.1 b.2.2.2 = true := by
              rcases Decidable.em (mayP l b.1 b.2.1 = true ∧ mayP l b.1 b.2.2.1 = true ∧ mayP l b.1 b.2.2.2 = true) with h | h
              · exact h
              · exact absurd h h2
            rcases Nat.lt_or_ge i l.length with hi | hi
            · rw [List.getElem?_append_left hi] at hc
              exact hg i c hc
            · rw [List.getElem?_append_right hi] at hc
              have hi0 : i - l.length = 0 := by
                rcases Nat.eq_zero_or_pos (i - l.length) with h | h
                · exact h
                · rw [List.getElem?_eq_none (by simp only [List.length_cons, List.length_nil]; omega)] at hc; cases hc
              rw [hi0] at hc
              simp at hc
              subst hc
              have e1 := may_range h2'.1
              have e2 := may_range h2'.2.1
              have e3 := may_range h2'.2.2
              exact ⟨by omega, by omega, by omega, by omega, by omega⟩
end Go.Proofs.Ytinlnfhicnejmaa
