/-
  THE WALK OF bailifflaw1.PackIn: it returns true; only new memory is laid.
-/
import Derived.Test.YtinlnfhicnejmaaPkRunsW
namespace Go.Proofs.Ytinlnfhicnejmaa
open Go.RowKit
set_option linter.unusedVariables false

theorem own_sl {w : World} {v : Value} {n B : Nat} {l : List UInt8} (h : w.ownsRow B 5 1 v n (vbytes l)) : ∃ A c, v = .slice A n c ∧ n ≤ c ∧ Sl w w.heap.size A (vbytes l) := by
  obtain ⟨A, c', rfl, hnc, hsl, hlo⟩ := own_slice h
  exact ⟨A, c', rfl, hnc, hsl⟩
theorem numAt_self (n : Int) (h1 : -9223372036854775808 ≤ n) (h2 : n ≤ 9223372036854775807) : numAt (numP n) 0 = some (n, (numP n).length) := by
  have := numAt_at [] [] n h1 h2
  simpa using this
set_option maxHeartbeats 400000 in
theorem packIn_walk (n0 : Int) (n1 : Int) (n2 : Int) (w : World) (lo0 : -9223372036854775808 ≤ n0) (hi0 : n0 ≤ 9223372036854775807) (lo1 : -9223372036854775808 ≤ n1) (hi1 : n1 ≤ 9223372036854775807) (lo2 : -9223372036854775808 ≤ n2) (hi2 : n2 ≤ 9223372036854775807) :
    Calls Try.prog 9 #[.int .i64 n0, .int .i64 n1, .int .i64 n2] w fun e w' => e = .returned (.bool true) ∧ Below w.heap.size w w' := by
  have h10 := numP_10 n0 lo0 hi0
  have hself := hide (numAt_self n0 lo0 hi0)
  have HN := hide (num_any none 0 0 n0 [] rfl w lo0 hi0 (by simp) Sl.nil)
  rw [List.nil_append] at HN
  clear lo0 hi0 lo1 hi1 lo2 hi2
  generalize numP n0 = L at *
  by_cases hin : n1 ≤ n0 ∧ n0 ≤ n2
  · obtain ⟨i1, i2⟩ := hin
    have hat := hide (inAt_in hself.out i1 i2)
    have hle : ¬ L.length < L.length := Nat.lt_irrefl _
    go_enter Try.func9, Try.ntmps9
    go_wp2_with fail
    refine HN.out.mono ?_
    rintro e w1 ⟨v, rfl, hown, hb1⟩
    obtain ⟨A, c, rfl, hc, hsl⟩ := own_sl hown
    have HB1 := hide hb1
    have HSL := hide hsl
    clear hown hb1 hsl hc
    go_wp2_with fail
    refine (read_any A c L.length L rfl w1 (by omega) HSL.out).mono ?_
    rintro e w2 ⟨g, rfl, hr, hg, hb2⟩
    have HB2 := hide (below_on HB1.out hb2)
    have HR := hide hr
    have HG : Hid (w.heap.size ≤ g) := hide (Nat.le_trans HB1.out.size hg)
    clear hr hb2 hg HB1 HSL
    go_wp2_with fail
    refine (in_any _ g L 0 false n1 n2 w2 HR.out).mono ?_
    rw [hat.out]
    rintro e w3 ⟨rfl, hr, hgr⟩
    have HB3 := hide (HB2.out.grown hgr HB2.out.size (fun k hk => by injection hk with hk; subst hk; exact HG.out))
    have HR2 := hide hr
    clear hr hgr HR HB2
    rw [Nat.zero_add] at HR2
    go_wp2_with fail
    refine (end_any _ g L L.length false w3 HR2.out).mono ?_
    rw [if_neg hle]
    rintro e w4 ⟨rfl, hd⟩
    rw [show wrongN false = 0 from rfl]
    have HB4 := hide (below_drawn HB3.out hd)
    clear hd
    go_wp2_with fail
    refine (packRuns_walk w4).mono ?_
    rintro e w5 ⟨rfl, hb⟩
    have HB5 := hide (below_on HB4.out hb)
    clear hb
    go_wp2
    go_ret
    exact ⟨rfl, HB5.out⟩
  · have hat := hide (inAt_out (lo := n1) (hi := n2) hself.out (by omega))
    have hor : n0 < n1 ∨ n2 < n0 := by omega
    clear hin
    rcases hor with i1 | i1
    all_goals
      first | (have i2 : n0 < n1 := i1) | (rcases Int.lt_or_le n0 n1 with i2 | i2)
      all_goals
        go_enter Try.func9, Try.ntmps9
        go_wp2_with fail
        refine HN.out.mono ?_
        rintro e w1 ⟨v, rfl, hown, hb1⟩
        obtain ⟨A, c, rfl, hc, hsl⟩ := own_sl hown
        have HB1 := hide hb1
        have HSL := hide hsl
        clear hown hb1 hsl hc
        go_wp2_with fail
        refine (read_any A c L.length L rfl w1 (by omega) HSL.out).mono ?_
        rintro e w2 ⟨g, rfl, hr, hg, hb2⟩
        have HB2 := hide (below_on HB1.out hb2)
        have HR := hide hr
        have HG : Hid (w.heap.size ≤ g) := hide (Nat.le_trans HB1.out.size hg)
        clear hr hb2 hg HB1 HSL
        go_wp2_with fail
        refine (in_any _ g L 0 false n1 n2 w2 HR.out).mono ?_
        rw [hat.out]
        rintro e w3 ⟨rfl, hr, hgr⟩
        have HB3 := hide (HB2.out.grown hgr HB2.out.size (fun k hk => by injection hk with hk; subst hk; exact HG.out))
        have HR2 := hide hr
        clear hr hgr HR HB2
        go_wp2_with fail
        refine (wrong_any _ g L 0 true w3 HR2.out).mono ?_
        rintro e w4 ⟨rfl, rfl⟩
        rw [show wrongN true = 7 from rfl]
        go_wp2_with fail
        refine (at_any _ g L 0 true w3 HR2.out).mono ?_
        rintro e w4 ⟨rfl, rfl⟩
        go_wp2_with fail
        refine (packRuns_walk w3).mono ?_
        rintro e w5 ⟨rfl, hb⟩
        have HB5 := hide (below_on HB3.out hb)
        clear hb
        go_wp2
        go_ret
        exact ⟨rfl, HB5.out⟩
end Go.Proofs.Ytinlnfhicnejmaa
