/-
  CONTRACT OF bailiffbook.Same AT VALUES.
-/
import Derived.Test.YtjaofdalmjiliaaAkPlace
import Derived.Laws.StructEq
import Derived.Laws.Tables
import Derived.Laws.Cover2
import Derived.KernelRfl
namespace Go.Proofs.Ytjaofdalmjiliaa
open Go.RowKit
set_option linter.unusedVariables false

theorem eqV (k n : Int) (s : ByteArray) (k' n' : Int) (s' : ByteArray) (w : World) : (Op.equalIn 10000 35 (.agg #[.int .i64 k, .int .i64 n, .string s]) (.agg #[.int .i64 k', .int .i64 n', .string s'])).run Try.prog w = .ok (decide ((k, n, s) = ((k', n', s') : V3))) w := by
  have u3 := Try.underlying3
  have a3 := Try.isAgg3
  have z3 := Try.sizeOf3
  have u9 := Try.underlying9
  have a9 := Try.isAgg9
  have z9 := Try.sizeOf9
  have hst : (s.toList = s'.toList) = (s = s') := propext (by rw [← decide_eq_true_iff (p := s = s'), ← str_dec, beq_iff_eq])
  have hS : Try.prog.underlying 35 = some (.struct (Try.prog.fieldsOf 35)) := by kernel_rfl
  have hp : Try.prog.stoodInHeld 35 = false := by kernel_rfl
  rw [show (10000 : Nat) = 9999 + 1 from rfl, run_equalIn_agg w 9999 35 _ _ hS hp]
  simp only [Program.fieldsOf, Try.underlying35]
  go_simp
  by_cases h1 : k = k' <;> by_cases h2 : n = n' <;> by_cases h4 : s = s' <;> first | (simp [h1, h2, h4]; done) | (simp [h1, h2, h4]; rw [hst]; exact h4)
/-- Are two bags the same? (a name that the walk does not open) -/
def eqL (l m : List V3) : Bool := decide (l = m)
theorem eqL_no (l m : List V3) (h : ¬ l.length = m.length) : eqL l m = false := decide_eq_false (fun e => h (by rw [e]))
theorem eqL_no_at (l m : List V3) (k : Nat) (hl : k < l.length) (hm : k < m.length) (h : ¬ l[k] = m[k]) : eqL l m = false := decide_eq_false (fun e => h (by subst e; rfl))
theorem eqL_yes (l m : List V3) (h : l.length = m.length) (hk : l.take l.length = m.take l.length) : eqL l m = true := decide_eq_true (by rw [← List.take_length (l := l), hk, h, List.take_length])
set_option maxHeartbeats 400000 in
theorem sameV_any (a b : Option Addr) (c d i j : Nat) (l m : List V3) (hi : l.length = i) (hj : m.length = j) (w : World) (B : Nat) (hl : l.length ≤ maxLen) (hm : m.length ≤ maxLen) (hs : Sl w B a (cellsV l)) (ht : Sl w B b (cellsV m)) :
    Calls Try.prog 15 #[.slice a i c, .slice b j d] w (Quiet (.bool (eqL l m)) w) := by
  subst hi hj
  unfold maxLen at hl hm
  by_cases hlen : l.length = m.length
  · have hb1 : ((l.length : Int) != (m.length : Int)) = false := by rw [hlen]; simp
    have hle : l.length ≤ m.length := by omega
    have HL := hide hlen
    clear hlen
    go_enter Try.func15, Try.ntmps15
    go_wp2
    go_loopw [5] (fun i wr => ∃ k n : Nat, k ≤ l.length ∧ i = .int .i64 k ∧ l.take k = m.take k ∧ wr = w.drewN n) (fun i _ => l.length - (intOf i).toNat)
    case atStart => exact ⟨0, 0, by omega, rfl, rfl, rfl⟩
    case round =>
      obtain ⟨k, n, hk, rfl, hkk, rfl⟩ := hrel
      have HK := hide hkk
      clear hkk
      by_cases hlt : k < l.length
      · have hlt2 : k < m.length := by omega
        obtain ⟨x, ox, rfl, _, x0, x1, x2⟩ := hs.val hlt
        obtain ⟨y, oy, rfl, _, y0, y1, y2⟩ := ht.val hlt2
        have hstep := hide (take_step l m k HK.out hlt hlt2)
        have hno := hide (eqL_no_at l m k hlt hlt2)
        clear hs ht
        generalize l[k] = p at *
        generalize m[k] = q at *
        obtain ⟨p0, p1, p2⟩ := p
        obtain ⟨q0, q1, q2⟩ := q
        have heq := eqV p0 p1 p2 q0 q1 q2
        simp only at x0 x1 x2 y0 y1 y2
        by_cases he : (p0, p1, p2) = ((q0, q1, q2) : V3)
        · rw [decide_eq_true he] at heq
          have hstep' := hide (hstep.out he)
          clear hstep he hno
          go_wp2
          go_quiet (fail)
          go_wp2
          go_roundw
          case rel => exact ⟨k + 1, n + nq, by omega, by go_num, hstep'.out, rfl⟩
          case measure => simp [intOf]; omega
        · rw [decide_eq_false he] at heq
          have hfin := hide (hno.out he)
          clear hstep he hno
          go_wp2
          go_quiet (fail)
          go_wp2
          go_ret
          exact ⟨by rw [hfin.out]; rfl, n + nq, World.drewN_drewN w n nq⟩
      · obtain rfl : k = l.length := by omega
        have hfin := hide (eqL_yes l m HL.out HK.out)
        go_wp2
        go_ret
        exact ⟨by rw [hfin.out]; rfl, n, rfl⟩
  · have hb1 : ((l.length : Int) != (m.length : Int)) = true := by rw [bne_iff_ne]; omega
    have hfin := hide (eqL_no l m hlen)
    clear hlen
    go_enter Try.func15, Try.ntmps15
    go_wp2
    go_ret
    exact ⟨by rw [hfin.out]; rfl, 0, rfl⟩
end Go.Proofs.Ytjaofdalmjiliaa
