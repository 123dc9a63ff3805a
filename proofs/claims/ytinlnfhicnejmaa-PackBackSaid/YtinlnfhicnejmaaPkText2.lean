/-
  CONTRACTS OF Reader.Num AND Reader.Text.
-/
import Derived.Test.YtinlnfhicnejmaaPkIn
import Derived.Test.YtinlnfhicnejmaaBytes
namespace Go.Proofs.Ytinlnfhicnejmaa
open Go.RowKit
set_option linter.unusedVariables false

theorem rnum_any (lo0 g : Nat) (l : List UInt8) (at_ : Nat) (bad : Bool) (w : World) (h : Reads w lo0 g l at_ bad) :
    Calls Try.prog 17 #[.pointer (some ⟨g, 0, none⟩)] w (RdStep w lo0 g l (.int .i64 (inAt l at_ bad (-9223372036854775808) 9223372036854775807).1) (inAt l at_ bad (-9223372036854775808) 9223372036854775807).2.1 (inAt l at_ bad (-9223372036854775808) 9223372036854775807).2.2) := by
  have HI := hide (in_any lo0 g l at_ bad (-9223372036854775808) 9223372036854775807 w h)
  clear h
  generalize inAt l at_ bad (-9223372036854775808) 9223372036854775807 = R at *
  go_enter Try.func17, Try.ntmps17
  go_wp2_with fail
  refine HI.out.mono ?_
  intro e w' hs
  have hs2 := hide hs
  obtain ⟨rfl, -, -⟩ := hs
  go_wp2
  go_ret
  exact ⟨rfl, hs2.out.2.1, hs2.out.2.2⟩
theorem rdstep_after {w w1 w' : World} {lo g : Nat} {l : List UInt8} {r : Value} {at_ : Nat} {bad : Bool} {e : Ending} (hg : w.grownBy w1 (some g)) (h : RdStep w1 lo g l r at_ bad e w') : RdStep w lo g l r at_ bad e w' :=
  ⟨h.1, h.2.1, grown_trans' hg h.2.2⟩
theorem quiet_convert {P : Program} {C : World → Prop} {a : Act} {o : Oper} {K : Act → Prop} (s d : TypeId) (x : Operand) (v : Value) (h : o.op = .convert s d x) (hrun : ∀ w, C w → (convert s d (a.eval x)).run P w = .ok v w) (hk : K (a.put o.dst v)) : o.quiet P a C K :=
  ⟨v, fun w hw => by
    unfold Oper.quietAt execOp
    rw [h]
    simp [hrun w hw, Oper.quietUpon], hk⟩
/-- A text as a value. -/
def str (l : List UInt8) : Value := .string (text l)
theorem grown_dsd (w : World) (g q n : Nat) (v : Value) : w.grownBy (((w.drewN q).setCell ⟨g, 1, none⟩ v).drewN n) (some g) := by
  have h1 : w.grownBy (w.drewN q) (some g) := grown_of_drawn ⟨q, rfl⟩ _
  have h2 := grown_set (w.drewN q) g 1 v
  generalize (w.drewN q).setCell ⟨g, 1, none⟩ v = w2 at *
  have h3 : w2.grownBy (w2.drewN n) (some g) := grown_of_drawn ⟨n, rfl⟩ _
  exact grown_trans' (grown_trans' h1 h2) h3
theorem text_conv {w : World} {g k m c b off : Nat} {l : List UInt8} (h : Sl w g (some ⟨b, off, none⟩) (vbytes l)) (h5 : k + m ≤ l.length) (hc : l.length ≤ c) :
    (convert 24 9 (.slice (if c = k then some ⟨b, off, none⟩ else some ⟨b, off + k, none⟩) (k + m - k) (c - k))).run Try.prog w = .ok (str ((l.drop k).take m)) w := by
  refine run_text w 24 9 5 _ (c - k) (k + m - k) g ((l.drop k).take m) (by rw [List.length_take, List.length_drop]; omega) Try.underlying24 Try.underlying5 Try.underlying9 ?_
  by_cases hck : c = k
  · have hm0 : m = 0 := by omega
    rw [hm0, List.take_zero]
    exact fun h => absurd rfl h
  · rw [if_neg hck]
    refine Sl.takeBytes (fun hn => ?_) m
    obtain ⟨b', off', e, hb, hx⟩ := h (fun he => hn (by rw [← vbytes_drop, he, List.drop_nil]))
    injection e with e
    injection e with e1 e2
    subst e1 e2
    refine ⟨b, off + k, rfl, hb, fun i x hx' => ?_⟩
    rw [← vbytes_drop, List.getElem?_drop] at hx'
    rw [Nat.add_assoc]
    exact hx _ _ hx'
set_option maxHeartbeats 400000 in
theorem rtext_any (lo0 g : Nat) (l : List UInt8) (at_ : Nat) (bad : Bool) (most : Int) (w : World) (h : Reads w lo0 g l at_ bad) :
    Calls Try.prog 16 #[.pointer (some ⟨g, 0, none⟩), .int .i64 most] w (RdStep w lo0 g l (str (textAt l at_ bad most).1) (textAt l at_ bad most).2.1 (textAt l at_ bad most).2.2) := by
  have HI := hide (in_any lo0 g l at_ bad 0 most w h)
  obtain ⟨A, c, h1, h2, h3, h4, h4', _⟩ := h
  have c1 : w.cell? ⟨g, 1, none⟩ = some (.int .i64 at_) := by simp [World.cell?, h1]
  clear h1 h3
  rcases inAt_cases l at_ bad 0 most h4 with hc | ⟨n, sz, rfl, hc, hn, hn0, hn1, hs1, hs2⟩
  · rw [textAt_bad hc]
    rw [hc] at HI
    have HS : Hid (str [] = .string ⟨#[]⟩) := rfl
    clear hc
    go_enter Try.func16, Try.ntmps16
    go_wp2_with fail
    refine HI.out.mono ?_
    rintro e w1 ⟨rfl, hr, hg⟩
    have HF := hide (fun n => fail_any lo0 g l at_ at_ (Nat.le_refl _) true (w1.drewN n) (reads_drawn hr ⟨n, rfl⟩))
    have HG := hide hg
    obtain ⟨A1, c', k1, k2, k3, k4, _⟩ := hr
    have d2 : w1.cell? ⟨g, 2, none⟩ = some (.bool true) := by simp [World.cell?, k1]
    clear c1 k1 k3 hg
    go_wp2
    go_quiet (fail)
    go_wp2_with fail
    refine (HF.out _).mono ?_
    intro e w' hs
    have hs2 := hide (rdstep_after HG.out (rdstep_drawn ⟨_, rfl⟩ hs))
    obtain ⟨rfl, -, -⟩ := hs
    go_wp2
    go_ret
    exact ⟨by rw [HS.out]; rfl, hs2.out.2.1, hs2.out.2.2⟩
  · rw [hc] at HI
    by_cases hle : n ≤ ((l.length - (at_ + sz) : Nat) : Int)
    · rw [textAt_in hc hle]
      clear hc hn
      go_enter Try.func16, Try.ntmps16
      go_wp2_with fail
      refine HI.out.mono ?_
      rintro e w1 ⟨rfl, hr, hg⟩
      have HR := hide hr
      have HG := hide hg
      obtain ⟨A1, c', k1, k2, k3, k4, k4', k5, _⟩ := hr
      obtain ⟨b, off, rfl, hbg0, hcell⟩ := k5 (by intro he; have := congrArg List.length he; rw [vbytes_length, List.length_nil] at this; omega)
      have d2 : w1.cell? ⟨g, 2, none⟩ = some (.bool false) := by simp [World.cell?, k1]
      have d1 : w1.cell? ⟨g, 1, none⟩ = some (.int .i64 ((at_ + sz : Nat) : Int)) := by simp [World.cell?, k1]
      have d0 : w1.cell? ⟨g, 0, none⟩ = some (.slice (some ⟨b, off, none⟩) l.length c') := by simp [World.cell?, k1]
      obtain ⟨m, rfl⟩ := Int.eq_ofNat_of_zero_le hn0
      have h5 : at_ + sz + m ≤ l.length := by omega
      clear c1 hg
      generalize at_ + sz = k at *
      have hlt := reads_lt HR.out
      have f1 : ∀ n, (w1.drewN n).frozen? ⟨g, 1, none⟩ = false := fun n => frozen_of_row _ g 1 _ _ k1
      have e0 : ∀ n, ((w1.drewN n).setCell ⟨g, 1, none⟩ (.int .i64 ((k : Int) + (m : Int)))).cell? ⟨g, 0, none⟩ = some (.slice (some ⟨b, off, none⟩) l.length c') := fun n => by rw [World.cell?_setCell_other _ _ _ _ (by simp)]; simp [World.cell?, World.drewN, k1]
      have e1 : ∀ n, ((w1.drewN n).setCell ⟨g, 1, none⟩ (.int .i64 ((k : Int) + (m : Int)))).cell? ⟨g, 1, none⟩ = some (.int .i64 ((k : Int) + (m : Int))) := fun n => World.cell?_setCell_same _ _ _ (show (w1.drewN n).cell? ⟨g, 1, none⟩ = some (.int .i64 k) by simp [World.cell?, World.drewN, k1])
      have HCV : Hid (∀ q n, (convert 24 9 (.slice (if c' = k then some ⟨b, off, none⟩ else some ⟨b, off + k, none⟩) (k + m - k) (c' - k))).run Try.prog (((w1.drewN q).setCell ⟨g, 1, none⟩ (.int .i64 ((k : Int) + (m : Int)))).drewN n) = .ok (str ((l.drop k).take m)) (((w1.drewN q).setCell ⟨g, 1, none⟩ (.int .i64 ((k : Int) + (m : Int)))).drewN n)) := hide (fun q n => text_conv (sl_low (lo := lo0) k5 (grown_dsd w1 g q n _) hlt) h5 k2)
      have HT : Hid (List.take (m : Int).toNat (l.drop k) = (l.drop k).take m) := hide (by rw [Int.toNat_natCast])
      clear k1 k3 hn0 hn1 hle hs2 hbg0 hlt k5 hcell
      have hw1 : wrap64 ((l.length : Int) - (k : Int)) = (l.length : Int) - (k : Int) := IntWalk.wrap64_in _ ⟨by omega, by omega⟩
      have hw2 : wrap64 ((k : Int) + (m : Int)) = ((k + m : Nat) : Int) := by rw [IntWalk.wrap64_in _ ⟨by omega, by omega⟩]; omega
      have hw4 : wrap64 (k : Int) = (k : Int) := IntWalk.wrap64_in _ ⟨by omega, by omega⟩
      have hw3 : wrap64 (((k + m : Nat) : Int) - (m : Int)) = (k : Int) := by rw [IntWalk.wrap64_in _ ⟨by omega, by omega⟩]; omega
      go_wp2
      go_quiet (fail)
      go_wp2
      refine wp_region_quiet_lit (by kernel_rfl) (by kernel_rfl) ?_
      iterate 15 (go_big_quiet_step (fail))
      go_big_quiet_want
      refine quiet_convert 24 9 (.tmp 57) (str ((l.drop k).take m)) rfl (by rintro w' ⟨n, rfl⟩; exact HCV.out nq n) ?_
      simp only [Act.put, List.setIfInBounds_toArray, List.set_cons_succ, List.set_cons_zero]
      go_big_quiet_on
      go_big_quiet_step (fail)
      refine wpQuiet_nil ?_
      rintro _ ⟨nq2, rfl⟩
      go_wp2
      all_goals
        go_ret
        refine ⟨?_, ?_, ?_⟩
        · rfl
        · have e : (k : Int) + (m : Int) = ((k + m : Nat) : Int) := by omega
          rw [e]
          exact reads_drawn (reads_set (reads_drawn HR.out ⟨nq, rfl⟩) (k + m) h5) ⟨nq2, rfl⟩
        · exact grown_trans' HG.out (grown_dsd w1 g nq nq2 _)
    · rw [textAt_short hc (by omega)]
      clear hc hn
      have HS : Hid (str [] = .string ⟨#[]⟩) := rfl
      go_enter Try.func16, Try.ntmps16
      go_wp2_with fail
      refine HI.out.mono ?_
      rintro e w1 ⟨rfl, hr, hg⟩
      have HF := hide (fun n => fail_any lo0 g l (at_ + sz) at_ (by omega) false (w1.drewN n) (reads_drawn hr ⟨n, rfl⟩))
      have HG := hide hg
      obtain ⟨A1, c', k1, k2, k3, k4, k4', _⟩ := hr
      have d2 : w1.cell? ⟨g, 2, none⟩ = some (.bool false) := by simp [World.cell?, k1]
      have d1 : w1.cell? ⟨g, 1, none⟩ = some (.int .i64 ((at_ + sz : Nat) : Int)) := by simp [World.cell?, k1]
      have d0 : w1.cell? ⟨g, 0, none⟩ = some (.slice A1 l.length c') := by simp [World.cell?, k1]
      generalize at_ + sz = k at *
      have hgt : (l.length : Int) - (k : Int) < n := by omega
      have hw1 : wrap64 ((l.length : Int) - (k : Int)) = (l.length : Int) - (k : Int) := IntWalk.wrap64_in _ ⟨by omega, by omega⟩
      clear c1 k1 k3 hg hle hn0 hn1 hs2
      go_wp2
      go_quiet (fail)
      go_wp2_with fail
      refine (HF.out _).mono ?_
      intro e w' hs
      have hs2 := hide (rdstep_after HG.out (rdstep_drawn ⟨_, rfl⟩ hs))
      obtain ⟨rfl, -, -⟩ := hs
      go_wp2
      go_ret
      exact ⟨by rw [HS.out]; rfl, hs2.out.2.1, hs2.out.2.2⟩
end Go.Proofs.Ytinlnfhicnejmaa
