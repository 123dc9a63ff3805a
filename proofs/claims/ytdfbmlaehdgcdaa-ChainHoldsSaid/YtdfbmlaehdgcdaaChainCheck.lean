/-
  CONTRACTS OF chain.Check AND THE DOCUMENT'S OWN Check: the first place at which records haven't these sums. Condition: no more than 4096 records.
-/
import Derived.Test.YtdfbmlaehdgcdaaChainSums
import Derived.Test.YtdfbmlaehdgcdaaBook
namespace Go.Proofs.Ytdfbmlaehdgcdaa
open Go.RowKit
set_option linter.unusedVariables false

theorem vw_at (l : List (BitVec 64)) (i : Nat) : (vw l)[i]? = (l[i]?).map fun c => .int .u64 (n64 c) := by simp [vw]
theorem Sl.word {w : World} {B : Nat} {a : Option Addr} {l : List (BitVec 64)} {i : Nat} (h : Sl w B a (vw l)) (hi : i < l.length) :
    ∃ b off, a = some ⟨b, off, none⟩ ∧ b < B ∧ w.cell? ⟨b, off + i, none⟩ = some (.int .u64 (n64 l[i])) :=
  h.at (by rw [vw_at]; simp [hi])
theorem n64_ne (x y : BitVec 64) : (n64 x != n64 y) = !(x == y) := by unfold bne; rw [n64_eq]
def CheckPost (w : World) (r : Int) (e : Ending) (w' : World) : Prop := e = .returned (.int .i64 r) ∧ Below w.heap.size w w'

set_option maxHeartbeats 1000000 in
theorem check_any (a b : Option Addr) (cap n c m : Nat) (l : List (List UInt8)) (s : List (BitVec 64)) (hn : l.length = n) (hm : s.length = m) (w : World) (hl : l.length ≤ 4096) (hml : s.length ≤ 4096) (hb : ∀ x ∈ l, x.length ≤ 140737488351232) (hs : Rws w w.heap.size a l) (ht : Sl w w.heap.size b (vw s)) :
    Calls Try.prog 21 #[.slice a n cap, .slice b m c] w (CheckPost w (Fnv.part (Fnv.sums 0#64 l) s)) := by
  subst hm
  go_enter Try.func21, Try.ntmps21
  go_wp2_with fail
  refine (sums_any a cap n l hn w hl hb hs).mono ?_
  rintro e w1 ⟨v, rfl, hown, hb1⟩
  have hol := hide (Fnv.sums_length l 0#64)
  obtain ⟨A, c1, rfl, hc1, hso, _⟩ := own_slice hown
  have hst := ht.below hb1
  generalize ho : Fnv.sums 0#64 l = o at hown hso hol
  have HO := hide ho
  have hol2 : o.length = l.length := hol.out
  rw [← hol2] at hl ⊢
  clear hown hol hol2 hs ht hb hn ho
  go_wp2
  go_loopw [6] (fun i wr => ∃ k d : Nat, k ≤ o.length ∧ k ≤ s.length ∧ i = .int .i64 k ∧ o.take k = s.take k ∧ wr = w1.drewN d) (fun i _ => o.length - (intOf i).toNat)
  case atStart => exact ⟨0, 0, Nat.zero_le _, Nat.zero_le _, rfl, rfl, rfl⟩
  case round =>
    obtain ⟨k, d, hk, hk2, rfl, htk, rfl⟩ := hrel
    have HT := hide htk
    clear htk
    have fin := fun (h : ∀ (ha : k < o.length) (hb : k < s.length), o[k] ≠ s[k]) (hne : o ≠ s) => Fnv.part_no o s k HT.out hk hk2 hne h
    have FIN := hide fin
    clear fin
    by_cases h1 : k < o.length
    · by_cases h2 : k < s.length
      · have hd1 : decide (o.length ≤ k) = false := by simp; omega
        have hd2 : decide (s.length ≤ k) = false := by simp; omega
        obtain ⟨b1, o1, rfl, _, hc1⟩ := hso.word h1
        obtain ⟨b2, o2, rfl, _, hc2⟩ := hst.word h2
        have hne := n64_ne o[k] s[k]
        have hstep := hide (take_step o s k HT.out h1 h2)
        clear HT hso hst
        by_cases he : o[k] = s[k]
        · rw [beq_iff_eq.2 he] at hne
          have hstep' := hide (hstep.out he)
          clear hstep he FIN
          generalize o[k] = x at hne hc1
          generalize s[k] = y at hne hc2
          go_wp2
          go_quiet (fail)
          go_wp2
          go_roundw
          case rel => exact ⟨k + 1, d + nq, by omega, by omega, by go_num, hstep'.out, rfl⟩
          case measure => simp [intOf]; omega
        · rw [beq_eq_false_iff_ne.2 he] at hne
          have hr := hide (FIN.out (fun _ _ => he) (fun e => he (by subst e; rfl)))
          clear hstep he FIN
          generalize o[k] = x at hne hc1
          generalize s[k] = y at hne hc2
          go_wp2
          go_quiet (fail)
          go_wp2
          go_ret
          exact ⟨by rw [HO.out, hr.out]; rfl, below_drewN (below_drewN hb1 _) _⟩
      · have hd1 : decide (o.length ≤ k) = false := by simp; omega
        have hd2 : decide (s.length ≤ k) = true := by simp; omega
        have hr := hide (FIN.out (fun _ hb => absurd hb h2) (fun e => by subst e; exact h2 h1))
        clear FIN HT
        go_wp2
        go_quiet (fail)
        go_wp2
        go_ret
        exact ⟨by rw [HO.out, hr.out]; rfl, below_drewN (below_drewN hb1 _) _⟩
    · by_cases h2 : k < s.length
      · have hd1 : decide (o.length ≤ k) = true := by simp; omega
        have hr := hide (FIN.out (fun ha => absurd ha h1) (fun e => by subst e; exact h1 h2))
        clear FIN HT
        go_wp2
        go_quiet (fail)
        go_wp2
        go_ret
        exact ⟨by rw [HO.out, hr.out]; rfl, below_drewN (below_drewN hb1 _) _⟩
      · have heq : o = s := by
          have := HT.out
          rwa [List.take_of_length_le (by omega), List.take_of_length_le (by omega)] at this
        have hr : Hid (Fnv.part o s = -1) := by subst heq; exact Fnv.part_yes o
        clear FIN HT heq
        go_wp2
        go_ret
        exact ⟨by rw [HO.out, hr.out]; rfl, below_drewN hb1 _⟩
set_option maxHeartbeats 1000000 in
theorem refcheck_any (a b : Option Addr) (cap n c m : Nat) (l : List (List UInt8)) (s : List (BitVec 64)) (hn : l.length = n) (hm : s.length = m) (w : World) (hl : l.length ≤ 4096) (hml : s.length ≤ 4096) (hb : ∀ x ∈ l, x.length ≤ 140737488351232) (hs : Rws w w.heap.size a l) (ht : Sl w w.heap.size b (vw s)) :
    Calls Try.prog 26 #[.slice a n cap, .slice b m c] w (CheckPost w (Fnv.part (Fnv.sums 0#64 l) s)) := by
  subst hm
  go_enter Try.func26, Try.ntmps26
  go_wp2_with fail
  refine (refsums_any a cap n l hn w hl hb hs).mono ?_
  rintro e w1 ⟨v, rfl, hown, hb1⟩
  have hol := hide (Fnv.sums_length l 0#64)
  obtain ⟨A, c1, rfl, hc1, hso, _⟩ := own_slice hown
  have hst := ht.below hb1
  generalize ho : Fnv.sums 0#64 l = o at hown hso hol
  have HO := hide ho
  have hol2 : o.length = l.length := hol.out
  rw [← hol2] at hl ⊢
  clear hown hol hol2 hs ht hb hn ho
  go_wp2
  go_loopw [11] (fun i wr => ∃ k d : Nat, k ≤ o.length ∧ k ≤ s.length ∧ i = .int .i64 k ∧ o.take k = s.take k ∧ wr = w1.drewN d) (fun i _ => o.length - (intOf i).toNat)
  case atStart => exact ⟨0, 0, Nat.zero_le _, Nat.zero_le _, rfl, rfl, rfl⟩
  case round =>
    obtain ⟨k, d, hk, hk2, rfl, htk, rfl⟩ := hrel
    have HT := hide htk
    clear htk
    have fin := fun (h : ∀ (ha : k < o.length) (hb : k < s.length), o[k] ≠ s[k]) (hne : o ≠ s) => Fnv.part_no o s k HT.out hk hk2 hne h
    have FIN := hide fin
    clear fin
    by_cases h1 : k < o.length
    · by_cases h2 : k < s.length
      · have hd2 : decide (s.length ≤ k) = false := by simp; omega
        obtain ⟨b1, o1, rfl, _, hc1⟩ := hso.word h1
        obtain ⟨b2, o2, rfl, _, hc2⟩ := hst.word h2
        have hne := n64_ne o[k] s[k]
        have hstep := hide (take_step o s k HT.out h1 h2)
        clear HT hso hst
        by_cases he : o[k] = s[k]
        · rw [beq_iff_eq.2 he] at hne
          have hstep' := hide (hstep.out he)
          clear hstep he FIN
          generalize o[k] = x at hne hc1
          generalize s[k] = y at hne hc2
          go_wp2
          go_quiet (fail)
          go_wp2
          go_roundw
          case rel => exact ⟨k + 1, d + nq, by omega, by omega, by go_num, hstep'.out, rfl⟩
          case measure => simp [intOf]; omega
        · rw [beq_eq_false_iff_ne.2 he] at hne
          have hr := hide (FIN.out (fun _ _ => he) (fun e => he (by subst e; rfl)))
          clear hstep he FIN
          generalize o[k] = x at hne hc1
          generalize s[k] = y at hne hc2
          go_wp2
          go_quiet (fail)
          go_wp2
          go_ret
          exact ⟨by rw [HO.out, hr.out]; rfl, below_drewN (below_drewN hb1 _) _⟩
      · have hd2 : decide (s.length ≤ k) = true := by simp; omega
        have hr := hide (FIN.out (fun _ hb => absurd hb h2) (fun e => by subst e; exact h2 h1))
        clear FIN HT
        go_wp2
        go_quiet (fail)
        go_wp2
        go_ret
        exact ⟨by rw [HO.out, hr.out]; rfl, below_drewN (below_drewN hb1 _) _⟩
    · obtain rfl : k = o.length := by omega
      by_cases h2 : o.length < s.length
      · have hr := hide (FIN.out (fun ha => absurd ha h1) (fun e => by subst e; exact h1 h2))
        clear FIN HT
        go_wp2
        go_ret
        exact ⟨by rw [HO.out, hr.out]; rfl, below_drewN hb1 _⟩
      · have heq : o = s := by
          have := HT.out
          rwa [List.take_of_length_le (by omega), List.take_of_length_le (by omega)] at this
        have hr : Hid (Fnv.part o s = -1) := by subst heq; exact Fnv.part_yes o
        clear FIN HT heq
        go_wp2
        go_ret
        exact ⟨by rw [HO.out, hr.out]; rfl, below_drewN hb1 _⟩
end Go.Proofs.Ytdfbmlaehdgcdaa
