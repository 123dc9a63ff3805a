/-
  FOR THE WALK OF bailifflaw1.PackWrong: a reader behind an error; drawn regions over a class of worlds.
-/
import Derived.Test.YtinlnfhicnejmaaPkWritesW
import Derived.Test.YtinlnfhicnejmaaTriples
namespace Go.Proofs.Ytinlnfhicnejmaa
open Go.RowKit
set_option linter.unusedVariables false

/-- A world of a class. -/
structure In (C : World → Prop) where
  w : World
  h : C w
/-- A drawn region whose operations yield the same values in every world of a class, which every call keeps. -/
theorem wp_region_in {P : Program} {C : World → Prop} {id : Nat} {Q : Exit → Act → World → Prop} {a : Act} {w : World} {l : List Oper} (hm : P.follows .mixedOrders = true) (hB : Region.lexB .any l.toArray = true) (hC : C w.drew)
    (h : wpQuiet P l.toArray (fun w' => ∃ p : In C, w' = p.w) (fun a' => ∀ w', C w' → Q .normal a' w') l a) : (Code.region id l.toArray true).wp P Q a w := by
  refine wp_region_quiet (C := fun w' => ∃ p : In C, w' = p.w) hm hB ⟨⟨w.drew, hC⟩, rfl⟩ ?_
  have e : (fun a' => ∀ w', (∃ p : In C, w' = p.w) → Q .normal a' w') = fun a' => ∀ w', C w' → Q .normal a' w' := by
    funext a'
    exact propext ⟨fun g w' hb => g w' ⟨⟨w', hb⟩, rfl⟩, fun g w' ⟨p, hp⟩ => hp ▸ g p.w p.h⟩
  rw [e]
  simpa using h
theorem in_call {P : Program} {C : World → Prop} {p : In C} {f : FuncId} {args : Array Value} {v : Value} (h : ∀ w', C w' → Calls P f args w' fun e w'' => e = .returned v ∧ C w'') :
    Calls P f args p.w fun e w'' => e = .returned v ∧ ∃ q : In C, w'' = q.w :=
  (h p.w p.h).mono fun _ w'' k => ⟨k.1, ⟨w'', k.2⟩, rfl⟩
/-- More behind an owned row of bytes. -/
theorem wpList_more {ops : Array Oper} {rest : List Oper} {o : Oper} {a : Act} {Q : Exit → Act → World → Prop} {w : World} (hw : Region.wanted o (yielded ops a.tmps) = true) (s x : Operand)
    (ho : o.op = .call { callee := .builtin .append, args := #[s, x], argTypes := #[24, 24] }) (B : Nat) (v : Value) (n : Nat) (l : List UInt8) (hs : a.eval s = v) (hown : w.ownsRow B 5 1 v n (vbytes l)) (hn : n ≤ 1000000000) (hB : B ≤ w.heap.size)
    (A : Option Addr) (m c : Nat) (l2 : List UInt8) (hx : a.eval x = .slice A m c) (hl : l2.length = m) (hr : Sl w w.heap.size A (vbytes l2)) (hm : m ≤ 1000000000)
    (h : ∀ v' w', w'.ownsRow B 5 1 v' (n + m) (vbytes (l ++ l2)) → Below B w w' → wpList Try.prog ops Q rest (a.put o.dst v') w') : wpList Try.prog ops Q (o :: rest) a w := by
  obtain ⟨i0, hi, hz0, hz1, hz2⟩ := info_parts infoB
  refine BigFrame.wpList_want hw fun K hK => wp_app _ s x 24 ho B 5 i0 (.int .u8 0) 1 1 Try.underlying24 hi hz0 hz1 hz2 rfl (by decide) _ n (vbytes l) hs hown w.heap.size A m c (vbytes l2) hx (by rw [vbytes_length, hl, Nat.mul_one]) hr (one_vb l2) (by unfold maxLen; omega) (by omega) hB fun v' w' h2 h3 h4 => hK _ _ (h v' w' ?_ ?_)
  · rwa [← vbytes_append] at h2
  · exact own_below hown (Below.refl _ _) h3 (Nat.le_refl _) hB
theorem less_60 (p : Nat) (P : Program) (ts : Array TypeId) (t : TypeId) (w : World) : (Builtin.min_ ts t #[.int .i64 (p : Int), .int .i64 60]).run P w = .ok (.int .i64 ((min p 60 : Nat) : Int)) w := less_nat p 60 P ts t w
/-! A number ends with a byte below 128. -/
theorem parse_lastbyte : ∀ (r : List UInt8) (i u v s : Nat), parse r i u = some (v, s) → ∃ c : UInt8, i < s ∧ r[s - i - 1]? = some c ∧ c.toNat < 128
  | [], i, u, v, s, h => by cases h
  | c :: r, i, u, v, s, h => by
    by_cases hi : 10 ≤ i
    · rw [parse_end (.inl hi)] at h; cases h
    by_cases hb : badC i c.toNat
    · rw [parse_bad hb] at h; cases h
    by_cases hl : c.toNat < 128
    · rw [parse_last (by omega) hb hl] at h
      injection h with h
      injection h with e1 e2
      subst e1 e2
      refine ⟨c, by omega, ?_, hl⟩
      rw [show i + 1 - i - 1 = 0 by omega]; rfl
    · rw [parse_more (by omega) hb hl] at h
      obtain ⟨d, h1, h2, h3⟩ := parse_lastbyte r (i + 1) _ v s h
      refine ⟨d, by omega, ?_, h3⟩
      rw [show s - i - 1 = (s - (i + 1) - 1) + 1 by omega, List.getElem?_cons_succ]
      exact h2
theorem numAt_not_last {l : List UInt8} {at_ : Nat} {n : Int} {sz : Nat} (h : numAt (l ++ [128]) at_ = some (n, sz)) (hle : at_ + sz ≤ l.length + 1) : at_ + sz ≤ l.length := by
  unfold numAt at h
  rcases hp : parse ((l ++ [128]).drop at_) 0 0 with _ | ⟨v, t⟩
  · rw [hp] at h; cases h
  · rw [hp] at h
    injection h with h
    injection h with e1 e2
    simp only at e2
    subst e2
    obtain ⟨c, h1, h2, h3⟩ := parse_lastbyte _ 0 0 v t hp
    rcases Nat.lt_or_ge l.length (at_ + t) with hlt | hge
    · exfalso
      rw [List.getElem?_drop, show at_ + (t - 0 - 1) = l.length by omega, List.getElem?_append_right (Nat.le_refl _), Nat.sub_self] at h2
      injection h2 with h2
      subst h2
      revert h3; decide
    · exact hge
/-- Behind an error. -/
def WrongAt (w : World) (g : Nat) (L : List UInt8) (k : Nat) (w' : World) : Prop := Below w.heap.size w w' ∧ w.heap.size ≤ g ∧ ∃ lo, Reads w' lo g L k true
theorem wrongAt_drawn {w w1 w2 : World} {g k : Nat} {L : List UInt8} (h : WrongAt w g L k w1) (hd : Drawn w1 w2) : WrongAt w g L k w2 := by
  obtain ⟨h1, h2, lo, h3⟩ := h
  exact ⟨below_drawn h1 hd, h2, lo, reads_drawn h3 hd⟩
theorem wrongAt_step {w w1 w2 : World} {lo g k : Nat} {L : List UInt8} {r : Value} {e : Ending} (h : WrongAt w g L k w1) (hs : RdStep w1 lo g L r k true e w2) : e = .returned r ∧ WrongAt w g L k w2 := by
  obtain ⟨h1, h2, _, h3⟩ := h
  exact ⟨hs.1, h1.grown hs.2.2 h1.size (fun j hj => by injection hj with hj; subst hj; exact h2), h2, lo, hs.2.1⟩
theorem wrong_num (w : World) (g k : Nat) (L : List UInt8) (w' : World) (h : WrongAt w g L k w') : Calls Try.prog 17 #[.pointer (some ⟨g, 0, none⟩)] w' fun e w'' => e = .returned (.int .i64 0) ∧ WrongAt w g L k w'' := by
  obtain ⟨lo, hr⟩ := h.2.2
  have hn := rnum_any lo g L k true w' hr
  rw [inAt_bad] at hn
  exact hn.mono fun e w2 hs => wrongAt_step h hs
theorem wrong_in (w : World) (g k : Nat) (L : List UInt8) (a b : Int) (w' : World) (h : WrongAt w g L k w') : Calls Try.prog 30 #[.pointer (some ⟨g, 0, none⟩), .int .i64 a, .int .i64 b] w' fun e w'' => e = .returned (.int .i64 0) ∧ WrongAt w g L k w'' := by
  obtain ⟨lo, hr⟩ := h.2.2
  have hn := in_any lo g L k true a b w' hr
  rw [inAt_bad] at hn
  exact hn.mono fun e w2 hs => wrongAt_step h hs
theorem wrong_text (w : World) (g k : Nat) (L : List UInt8) (a : Int) (w' : World) (h : WrongAt w g L k w') : Calls Try.prog 16 #[.pointer (some ⟨g, 0, none⟩), .int .i64 a] w' fun e w'' => e = .returned (.string ⟨#[]⟩) ∧ WrongAt w g L k w'' := by
  obtain ⟨lo, hr⟩ := h.2.2
  have hn := rtext_any lo g L k true a w' hr
  rw [textAt_bad (inAt_bad L k 0 a)] at hn
  exact hn.mono fun e w2 hs => wrongAt_step (r := str []) h hs
theorem wrong_at (w : World) (g k : Nat) (L : List UInt8) (w' : World) (h : WrongAt w g L k w') : Calls Try.prog 22 #[.pointer (some ⟨g, 0, none⟩)] w' fun e w'' => e = .returned (.int .i64 k) ∧ WrongAt w g L k w'' := by
  obtain ⟨lo, hr⟩ := h.2.2
  exact (at_any lo g L k true w' hr).mono fun e w2 hs => ⟨hs.1, hs.2 ▸ h⟩
theorem wrong_wrong (w : World) (g k : Nat) (L : List UInt8) (w' : World) (h : WrongAt w g L k w') : Calls Try.prog 21 #[.pointer (some ⟨g, 0, none⟩)] w' fun e w'' => e = .returned (.int .i64 7) ∧ WrongAt w g L k w'' := by
  obtain ⟨lo, hr⟩ := h.2.2
  exact (wrong_any lo g L k true w' hr).mono fun e w2 hs => ⟨hs.1, hs.2 ▸ h⟩
theorem wrong_end (w : World) (g k : Nat) (L : List UInt8) (w' : World) (h : WrongAt w g L k w') : Calls Try.prog 29 #[.pointer (some ⟨g, 0, none⟩)] w' fun e w'' => e = .returned (.int .i64 7) ∧ WrongAt w g L k w'' := by
  obtain ⟨lo, hr⟩ := h.2.2
  have hn := end_any lo g L k true w' hr
  rw [show (if k < L.length then (7 : Int) else wrongN true) = 7 by split <;> rfl] at hn
  exact hn.mono fun e w2 hs => ⟨hs.1, wrongAt_drawn h hs.2⟩
/-- While numbers are read until an error. -/
def WrongRel (w : World) (g : Nat) (l : List UInt8) (i : Value) (wr : World) : Prop :=
  ∃ (k at_ : Nat) (bad : Bool) (lo : Nat), i = .int .i64 k ∧ k ≤ l.length + 1 ∧ Below w.heap.size w wr ∧ w.heap.size ≤ g ∧ Reads wr lo g (l ++ [128]) at_ bad ∧ (bad = true ∨ (k ≤ at_ ∧ at_ ≤ l.length))
end Go.Proofs.Ytinlnfhicnejmaa
