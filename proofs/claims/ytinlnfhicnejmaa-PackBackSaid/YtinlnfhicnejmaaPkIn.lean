/-
  CONTRACTS OF Reader.In AND Reader.Num.
-/
import Derived.Test.YtinlnfhicnejmaaPkNumber2
import Derived.Test.YtinlnfhicnejmaaPkInP
namespace Go.Proofs.Ytinlnfhicnejmaa
open Go.RowKit
set_option linter.unusedVariables false

/-- A call of a reader's method that may draw: its answer, and where the reader stands; nothing else has turned. -/
theorem rdstep_drawn {w w1 w' : World} {lo g : Nat} {l : List UInt8} {r : Value} {at_ : Nat} {bad : Bool} {e : Ending} (hd : Drawn w w1) (h : RdStep w1 lo g l r at_ bad e w') : RdStep w lo g l r at_ bad e w' :=
  ⟨h.1, h.2.1, grown_trans' (grown_of_drawn hd _) h.2.2⟩
set_option maxHeartbeats 1000000 in
theorem in_any (lo0 g : Nat) (l : List UInt8) (at_ : Nat) (bad : Bool) (lo hi : Int) (w : World) (h : Reads w lo0 g l at_ bad) :
    Calls Try.prog 30 #[.pointer (some ⟨g, 0, none⟩), .int .i64 lo, .int .i64 hi] w (RdStep w lo0 g l (.int .i64 (inAt l at_ bad lo hi).1) (inAt l at_ bad lo hi).2.1 (inAt l at_ bad lo hi).2.2) := by
  have H := hide h
  have HN := hide (fun n => number_any lo0 g l at_ bad (w.drewN n) (reads_drawn h ⟨n, rfl⟩))
  have HF := hide (fun n => fail_any lo0 g l at_ at_ (Nat.le_refl _) bad (w.drewN n) (reads_drawn h ⟨n, rfl⟩))
  obtain ⟨A, c, h1, h2, h3, h4, h4', _⟩ := h
  have c1 : ∀ n, (w.drewN n).cell? ⟨g, 1, none⟩ = some (.int .i64 at_) := fun n => by simp [World.cell?, World.drewN, h1]
  have c2 : w.cell? ⟨g, 2, none⟩ = some (.bool bad) := by simp [World.cell?, h1]
  have f1 : ∀ n, (w.drewN n).frozen? ⟨g, 1, none⟩ = false := fun n => frozen_of_row _ g 1 _ _ h1
  rcases bad with _ | _
  · rcases hn : numAt l at_ with _ | ⟨v, sz⟩
    · rw [inAt_none lo hi hn]
      simp only [hn, numV] at HN
      clear h1 h3 hn
      go_enter Try.func30, Try.ntmps30
      go_wp2_with fail
      refine (HN.out 0).mono ?_
      rintro e w' ⟨rfl, n, rfl⟩
      go_wp2_with fail
      refine (HF.out n).mono ?_
      intro e w' hs
      have hs2 := hide (rdstep_drawn ⟨n, rfl⟩ hs)
      obtain ⟨rfl, -, -⟩ := hs
      go_wp2
      go_ret
      exact ⟨rfl, hs2.out.2.1, hs2.out.2.2⟩
    · have hf := numAt_facts hn h4
      simp only [hn, numV] at HN
      have hs := hide (fun n => (reads_set (reads_drawn H.out ⟨n, rfl⟩) (at_ + sz) hf.2.1 : Reads ((w.drewN n).setCell ⟨g, 1, none⟩ (.int .i64 ((at_ + sz : Nat) : Int))) lo0 g l (at_ + sz) false))
      have hsz : ((sz : Int) == 0) = false := beq_eq_false_iff_ne.2 (by omega)
      have hadd : wrap64 ((at_ : Int) + (sz : Int)) = ((at_ + sz : Nat) : Int) := by rw [IntWalk.wrap64_in _ ⟨by omega, by omega⟩]; omega
      by_cases ho : v < lo
      · rw [inAt_out hn (.inl ho)]
        have ho' : lo > v := ho
        clear h1 h3 hn hf hs
        go_enter Try.func30, Try.ntmps30
        go_wp2_with fail
        refine (HN.out 0).mono ?_
        rintro e w' ⟨rfl, n, rfl⟩
        go_wp2_with fail
        refine (HF.out n).mono ?_
        intro e w' hs
        have hs2 := hide (rdstep_drawn ⟨n, rfl⟩ hs)
        obtain ⟨rfl, -, -⟩ := hs
        go_wp2
        go_ret
        exact ⟨rfl, hs2.out.2.1, hs2.out.2.2⟩
      · by_cases hh : hi < v
        · rw [inAt_out hn (.inr hh)]
          clear h1 h3 hn hf hs
          go_enter Try.func30, Try.ntmps30
          go_wp2_with fail
          refine (HN.out 0).mono ?_
          rintro e w' ⟨rfl, n, rfl⟩
          go_wp2_with fail
          refine (HF.out n).mono ?_
          intro e w' hs
          have hs2 := hide (rdstep_drawn ⟨n, rfl⟩ hs)
          obtain ⟨rfl, -, -⟩ := hs
          go_wp2
          go_ret
          exact ⟨rfl, hs2.out.2.1, hs2.out.2.2⟩
        · rw [inAt_in hn (by omega) (by omega)]
          clear h1 h3 hn hf
          go_enter Try.func30, Try.ntmps30
          go_wp2_with fail
          refine (HN.out 0).mono ?_
          rintro e w' ⟨rfl, n, rfl⟩
          go_wp2
          go_ret
          exact ⟨rfl, hs.out n, grown_trans' (grown_of_drawn ⟨n, rfl⟩ _) (grown_set _ g 1 _)⟩
  · rw [inAt_bad]
    clear h1 h3
    go_enter Try.func30, Try.ntmps30
    go_wp2
    go_ret
    exact ⟨rfl, H.out, World.grownBy.refl w _⟩
end Go.Proofs.Ytinlnfhicnejmaa
