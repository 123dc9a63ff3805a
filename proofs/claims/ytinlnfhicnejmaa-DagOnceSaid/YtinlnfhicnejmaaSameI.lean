/-
  CONTRACT OF bailiffbook.Same at numbers.
-/
import Derived.Test.YtinlnfhicnejmaaBookS
import Derived.Test.YtinlnfhicnejmaaOpen
namespace Go.Proofs.Ytinlnfhicnejmaa
open Go.RowKit

set_option maxHeartbeats 400000 in
theorem same_int (a b : Option Addr) (c d i j : Nat) (l m : List Int) (hi : l.length = i) (hj : m.length = j) (w : World) (B : Nat) (hl : l.length ≤ 140737488351232) (hm : m.length ≤ 140737488351232) (hs : Sl w B a (vints .i64 l)) (ht : Sl w B b (vints .i64 m)) :
    Calls Try.prog 42 #[.slice a i c, .slice b j d] w (Quiet (.bool (sameB l m)) w) := by
  subst hi hj
  by_cases hlen : l.length = m.length
  · have hb1 : ((l.length : Int) != (m.length : Int)) = false := by rw [hlen]; simp
    have hle : l.length ≤ m.length := by omega
    have HL := hide hlen
    clear hlen
    go_enter Try.func42, Try.ntmps42
    go_wp2
    go_loopw [5] (fun i wr => ∃ k n : Nat, k ≤ l.length ∧ i = .int .i64 k ∧ l.take k = m.take k ∧ wr = w.drewN n) (fun i _ => l.length - (intOf i).toNat)
    case atStart => exact ⟨0, 0, by omega, rfl, rfl, rfl⟩
    case round =>
      obtain ⟨k, n, hk, rfl, hkk, rfl⟩ := hrel
      have HK := hide hkk
      clear hkk
      by_cases hlt : k < l.length
      · have hlt2 : k < m.length := by omega
        obtain ⟨x, ox, rfl, _, hcx⟩ := hs.at (i := k) (x := .int .i64 l[k]) (by simp [vints, hlt])
        obtain ⟨y, oy, rfl, _, hcy⟩ := ht.at (i := k) (x := .int .i64 m[k]) (by simp [vints, hlt2])
        have hne : (l[k] != m[k]) = !(l[k] == m[k]) := rfl
        have hstep := hide (take_step l m k HK.out hlt hlt2)
        clear hs ht
        by_cases he : l[k] = m[k]
        · rw [beq_iff_eq.2 he] at hne
          have hstep' := hide (hstep.out he)
          clear hstep he
          generalize l[k] = p at hne hcx
          generalize m[k] = q at hne hcy
          go_wp2
          go_quiet (fail)
          go_wp2
          go_roundw
          case rel => exact ⟨k + 1, n + nq, by omega, by go_num, hstep'.out, rfl⟩
          case measure => simp [intOf]; omega
        · rw [beq_eq_false_iff_ne.2 he] at hne
          have hfin := hide (same_no_at l m k hlt hlt2 he)
          clear hstep he
          generalize l[k] = p at hne hcx
          generalize m[k] = q at hne hcy
          go_wp2
          go_quiet (fail)
          go_wp2
          go_ret
          exact ⟨by rw [hfin.out]; rfl, n + nq, World.drewN_drewN w n nq⟩
      · obtain rfl : k = l.length := by omega
        have hfin := hide (same_yes l m HL.out HK.out)
        go_wp2
        go_ret
        exact ⟨by rw [hfin.out]; rfl, n, rfl⟩
  · have hb1 : ((l.length : Int) != (m.length : Int)) = true := by rw [bne_iff_ne]; omega
    have hfin := hide (same_no l m hlen)
    clear hlen
    go_enter Try.func42, Try.ntmps42
    go_wp2
    go_ret
    exact ⟨by rw [hfin.out]; rfl, 0, rfl⟩

end Go.Proofs.Ytinlnfhicnejmaa
